/- Written by a program of this session (xprint.py) out of the translation. What is proved, in the end: the Go law DirentDecodes answers true at every input, and its arguments read behind the call as before; no condition. -/
import Derived.Test.YtignifnkjlldpaaPDirentDecodesx0
import Derived.Test.YtignifnkjlldpaaPDirentDecodesx2
import Derived.Test.YtignifnkjlldpaaPDirentDecodesx3
import Derived.Test.YtignifnkjlldpaaPDirentDecodesx4
import Derived.Test.YtignifnkjlldpaaPDirentDecodesx5
namespace Go.Proofs.Ytignifnkjlldpaa.PDirentDecodes
open Go.RowKit Go.Proofs.YtignifnkjlldpaaW.PrintWords Go.Proofs.YtignifnkjlldpaaW.PrintLast Go.Proofs.YtignifnkjlldpaaW.PrintMore
attribute [local go_sem] max2_int min2_int max_two min_two max_three min_three max_four min_four   -- for this text's walks alone
set_option linter.unusedVariables false
set_option linter.unusedSimpArgs false

/-! ### ashlarref05_Read: function 79, by hand -/
/-- From here on more is held. -/
theorem up_ {P : Program} {md : Region.Mode} {ops : Array Oper} {Q : Exit → Act → World → Prop} {S S' : World → Prop} (hup : ∀ w, S' w → S w) : ∀ (fuel : Nat) (listed : Array Bool) (a : Act) (w : World), S' w → wpAnyLast P md ops Q S' [] fuel listed a w → wpAnyLast P md ops Q S [] fuel listed a w
  | 0, _, _, _, _, h => h
  | fuel + 1, _, _, _, hS, h => ⟨h.1, fun i hi => wpOp_mono (fun a' w' h' => ⟨fun _ _ => hup _ (h'.1 (by simp) hS), up_ hup fuel _ a' w' (h'.1 (by simp) hS) h'.2⟩) (h.2 i hi)⟩
theorem up_to {P : Program} {md : Region.Mode} {ops : Array Oper} {Q : Exit → Act → World → Prop} {S : World → Prop} {fuel : Nat} {listed : Array Bool} {a : Act} {w : World} (T : World → Prop) (hS : S w) (hT : T w) (h : (S w ∧ T w) → wpAnyLast P md ops Q (fun w' => S w' ∧ T w') [] fuel listed a w) : wpAnyLast P md ops Q S [] fuel listed a w :=
  up_ (S' := fun w' => S w' ∧ T w') (fun _ h => h.1) fuel listed a w ⟨hS, hT⟩ (h ⟨hS, hT⟩)
/-- The text that stands in sixteen bytes. -/
def ashlarref05_Read.txt (l0 : List Int) : ByteArray := strOfNums ((l0.take (3 + rd l0 2).toNat).drop 3)
def ashlarref05_Read.f (k : Nat) (l0 : List Int) : Option (Int × ByteArray × Bool) := if 16 ≤ l0.length then (if 0 ≤ rd l0 2 ∧ rd l0 2 ≤ 255 then (if rd l0 2 > 13 then some (0, (⟨#[]⟩ : ByteArray), false) else (ashlarref05_two.f k l0 0).bind fun n => (ashlarref05_FormedEntry.f k n (ashlarref05_Read.txt l0)).bind fun b => (if b = true then (ashlarref05_Spelt.f k n (ashlarref05_Read.txt l0)).bind fun y => some (n, ashlarref05_Read.txt l0, (strOfNums y).toList == (strOfNums (l0.take 16)).toList) else some (n, ashlarref05_Read.txt l0, false))) else none) else none
theorem ashlarref05_Read.mono : ∀ a0 k, LeO (ashlarref05_Read.f k a0) (ashlarref05_Read.f (k + 1) a0) := fun a0 k => LeO.ite (LeO.ite (LeO.ite (LeO.refl _) (LeO.bind (ashlarref05_two.mono _ _ _) (fun n => LeO.bind (ashlarref05_FormedEntry.mono _ _ _) (fun b => LeO.ite (LeO.bind (ashlarref05_Spelt.mono _ _ _) (fun y => LeO.refl _)) (LeO.refl _))))) (LeO.refl _)) (LeO.refl _)
def read_rt4.T : Bool × List (List Nat × List Nat) := (true, [([], []), ([0], [0]), ([], []), ([], []), ([3], [3]), ([2, 4], [2, 4]), ([5], [5]), ([1, 6], [1, 6]), ([], []), ([8, 7, 1, 0, 1, 2, 3, 4, 5, 6, 7, 8], [7, 8])])
def read_rt4.B : List Nat := [0, 1, 0, 0, 8, 28, 60, 127, 0, 511]
theorem read_rt4.tab : rtab .any (opsOf Try.f79 4) = read_rt4.T := by kernel_rfl
theorem read_rt4.bits : waitsOk read_rt4.T.2 read_rt4.B = true := by kernel_rfl
def read_rt5.T : Bool × List (List Nat × List Nat) := (true, [([], []), ([], []), ([1], [1]), ([2, 2], [2]), ([3], [3]), ([4, 3, 3], [3, 4]), ([5, 3], [3, 5]), ([3], [3]), ([7, 3], [3, 7]), ([8, 3], [3, 8]), ([6, 9, 3], [3, 6, 9]), ([3, 10], [3, 10]), ([0, 5, 0], [0]), ([11, 12, 0, 1, 2, 3, 4, 5, 6, 7, 8, 9, 10, 11, 12], [11])])
def read_rt5.B : List Nat := [0, 0, 2, 6, 14, 30, 62, 14, 142, 398, 1022, 2046, 63, 8191]
theorem read_rt5.tab : rtab .any (opsOf Try.f79 5) = read_rt5.T := by kernel_rfl
theorem read_rt5.bits : waitsOk read_rt5.T.2 read_rt5.B = true := by kernel_rfl
set_option maxHeartbeats 4000000 in
set_option maxRecDepth 100000 in
theorem ashlarref05_Read.calls (k : Nat) (A0 : Option Addr) (c0 : Nat) (l0 : List Int) (r1 : Int) (r2 : ByteArray) (r3 : Bool) (w : World) (hr0 : Kd.C (Kd.int .u8) w A0 l0.length l0) (hc0 : l0.length ≤ c0) (h : ashlarref05_Read.f k l0 = some (r1, r2, r3)) :
    Calls Try.prog 79 #[.slice A0 l0.length c0] w fun e w' => e = .returned (.tuple #[.agg #[.int .i64 r1, .string r2], .bool r3]) ∧ Below w.heap.size w w' := by
  unfold ashlarref05_Read.f at h
  by_cases hlen : 16 ≤ l0.length
  case neg => rw [if_neg hlen] at h; cases h
  rw [if_pos hlen] at h
  by_cases hm0 : 0 ≤ rd l0 2 ∧ rd l0 2 ≤ 255
  case neg => rw [if_neg hm0] at h; cases h
  rw [if_pos hm0] at h
  obtain ⟨m, hm⟩ : ∃ m, rd l0 2 = m := ⟨_, rfl⟩
  obtain ⟨ad, hA, hx⟩ := Kd.at_int hr0 2 (by omega) (by omega)
  subst hA
  rw [hm] at hx hm0
  have HR := Aside0.mk hr0
  have HC := Aside0.mk hc0
  have hx2 : w.cell? ⟨ad.block, ad.off + 2, none⟩ = some (.int .u8 m) := hx
  have hl2 : (2 < l0.length) = True := eq_true (by omega)
  have hl3 : decide ((2 : Int) < (l0.length : Int)) = true := decide_eq_true (by omega)
  have hl4 : ((2 : Int) < (l0.length : Int)) = True := eq_true (by omega)
  by_cases h13 : m > 13
  · rw [hm, if_pos h13] at h
    simp only [Option.some.injEq, Prod.mk.injEq] at h
    obtain ⟨rfl, rfl, rfl⟩ := h
    have q1 : decide (13 < m) = true := decide_eq_true (by omega)
    have e1 : IntKind.i64.wrap m = m := by rw [i64_w]; unfold wrap64; omega
    have hm00 := hm0.1
    have hm01 := hm0.2
    clear hm hm0 h13 hx hr0 hc0
    go_enter Try.func79, Try.ntmps79
    go_wp2_with ((with_reducible refine gate_dst (N := 2) rfl ?_); refine box_event ?hg (N := 2) ?hd (cs := #[.int .i64 0, .string (⟨#[]⟩ : ByteArray)]) (t := 60) ?hr ?_; (case hd => rfl); (case hg => rfl); (case hr => first | (go_simp; done) | (go_simp; rfl)); intro g2 hg w1 hbox hb; have HB1 := Aside0.mk hb; have HK1 := Aside0.mk hbox; have HG2 := Aside0.mk (show w.heap.size ≤ g2 by rw [hg]; exact Nat.le_refl _); have hx3 := pw_cell_below hb hx2; have hz0 : w1.cell? ⟨g2, 0, none⟩ = some (.int .i64 0) := (blk_cell HK1.out 0).trans rfl; have hz1 : w1.cell? ⟨g2, 1, none⟩ = some (.string ⟨#[]⟩) := (blk_cell HK1.out 1).trans rfl; have hf0 := blk_frozen HK1.out 0; have hf1 := blk_frozen HK1.out 1; clear hb hbox hg)
    refine bodyPost_ret (results_ct rfl _ _ g2 60 #[.int .i64 0, .string (⟨#[]⟩ : ByteArray)] (0, 0) _ rfl (blk_put (blk_put HK1.out 0 (.int .i64 0) rfl) 1 (.string ⟨#[]⟩) rfl) Try.underlying60 rfl (by kernel_rfl)) rfl ?_
    exact ⟨by first | rfl | simp, below_set (below_set HB1.out HG2.out) HG2.out⟩
  · rw [hm, if_neg h13] at h
    obtain ⟨n, hn, h⟩ := Option.bind_eq_some_iff.1 h
    obtain ⟨b, hf, h⟩ := Option.bind_eq_some_iff.1 h
    have hm00 := hm0.1
    have hm01 : m ≤ 13 := by omega
    have e1 : IntKind.i64.wrap m = m := by rw [i64_w]; unfold wrap64; omega
    have e2 : IntKind.i64.wrap (3 + m) = 3 + m := by rw [i64_w]; unfold wrap64; omega
    have q1 : decide (13 < m) = false := decide_eq_false (by omega)
    obtain ⟨s3, hs3⟩ : ∃ s3, (l0.take (3 + m).toNat).drop 3 = s3 := ⟨_, rfl⟩
    have hs3l : s3.length = m.toNat := by rw [← hs3, List.length_drop, List.length_take]; omega
    obtain ⟨s, hss⟩ : ∃ s, strOfNums s3 = s := ⟨_, rfl⟩
    have htx : ashlarref05_Read.txt l0 = s := by unfold ashlarref05_Read.txt; rw [hm, hs3, hss]
    rw [htx] at h hf
    obtain ⟨A3, hA3⟩ : ∃ A3, (if c0 = 3 then some ad else (some ad).map (·.add (3 * 1))) = A3 := ⟨_, rfl⟩
    obtain ⟨i5, hi5, hzz⟩ := Option.map_eq_some_iff.1 info5
    simp only [Prod.mk.injEq] at hzz
    have HCUT : Aside0 (∀ W : World, (Instr.slice 23 (.slice (some ad) l0.length c0) (some (.int .i64 3)) (some (.int .i64 (3 + m))) none).run Try.prog W = .ok (.slice A3 s3.length (c0 - 3)) W) := ⟨fun W => by
      have := cut_mid (P := Try.prog) 23 5 .i64 .i64 Try.underlying23 hi5 1 hzz.2.1 (some ad) l0.length c0 3 (3 + m) (by omega) (by omega) (by omega) hc0 W
      rw [this, ← hA3, hs3l]
      rw [show (3 : Int).toNat = 3 from rfl, show (3 + m).toNat - 3 = m.toNat by omega]⟩
    have HSUB : Aside0 (∀ w' : World, Kd.C (Kd.int .u8) w' (some ad) l0.length l0 → Kd.C (Kd.int .u8) w' A3 s3.length s3) := ⟨fun w' hC => by
      have := Kd.C_mid (lo := 3) (hi := (3 + m).toNat) (c := c0) hC (by omega) (by omega) hc0
      rw [hs3] at this
      rw [← hA3]; exact this⟩
    have HC16 : Aside0 (∀ W : World, (Instr.slice 23 (.slice (some ad) l0.length c0) none (some (.int .i64 16)) none).run Try.prog W = .ok (.slice (some ad) 16 c0) W) := ⟨fun W => by
      have := cut_to (P := Try.prog) 23 5 .i64 Try.underlying23 hi5 (some ad) l0.length c0 16 (by omega) (by omega) hc0 W
      exact this⟩
    have HTK : Aside0 ((l0.take 16).length = 16) := ⟨by rw [List.length_take]; omega⟩
    have H16S : Aside0 (∀ w' : World, Kd.C (Kd.int .u8) w' (some ad) l0.length l0 → Sem.run Try.prog (convert 23 9 (.slice (some ad) 16 c0)) w' = Result.ok (Value.string (strOfNums (l0.take 16))) w') := ⟨fun w' hC => by
      have h1 := Kd.C_take (m := 16) hC hlen
      rw [HTK.out] at h1
      exact Kd.C_string Try.underlying23 Try.underlying5 Try.underlying9 h1⟩
    have HN := Aside0.mk hn
    have HF := Aside0.mk hf
    have HSS := Aside0.mk hss
    obtain ⟨c3, hc3⟩ : ∃ c3, c0 - 3 = c3 := ⟨_, rfl⟩
    rw [hc3] at HCUT
    clear hm hm0 h13 hr0 hc0 hn hf hss hs3 hs3l htx hA3 hi5 hzz hc3
    go_enter Try.func79, Try.ntmps79
    go_upto_region 4 with ((with_reducible refine gate_dst (N := 2) rfl ?_); refine box_event ?hg (N := 2) ?hd (cs := #[.int .i64 0, .string (⟨#[]⟩ : ByteArray)]) (t := 60) ?hr ?_; (case hd => rfl); (case hg => rfl); (case hr => first | (go_simp; done) | (go_simp; rfl)); intro g2 hg w1 hbox hb; have HB1 := Aside0.mk hb; have HK1 := Aside0.mk hbox; have HG2 := Aside0.mk (show w.heap.size ≤ g2 by rw [hg]; exact Nat.le_refl _); have hx3 := pw_cell_below hb hx2; have hz0 : w1.cell? ⟨g2, 0, none⟩ = some (.int .i64 0) := (blk_cell HK1.out 0).trans rfl; have hz1 : w1.cell? ⟨g2, 1, none⟩ = some (.string ⟨#[]⟩) := (blk_cell HK1.out 1).trans rfl; have hf0 := blk_frozen HK1.out 0; have hf1 := blk_frozen HK1.out 1; clear hb hbox hg)
    have HB4 := Aside0.mk (below_drew HB1.out)
    have HK4 := Aside0.mk (blk_drew HK1.out)
    have HS4 : Aside0 (Kd.C (Kd.int .u8) w1.drew (some ad) l0.length l0 ∧ Kd.C (Kd.int .u8) w1.drew A3 s3.length s3 ∧ Below w.heap.size w w1.drew ∧ w1.drew.heap[g2]? = some (.cells #[.int .i64 0, .string (⟨#[]⟩ : ByteArray)] 60 (0, 0))) := ⟨Kd.C_below HR.out HB4.out, HSUB.out _ (Kd.C_below HR.out HB4.out), HB4.out, HK4.out⟩
    clear hz0 hz1 hf0 hf1
    refine start_ (n := 10) (S := fun w' => Kd.C (Kd.int .u8) w' (some ad) l0.length l0 ∧ Kd.C (Kd.int .u8) w' A3 s3.length s3 ∧ Below w.heap.size w w' ∧ w'.heap[g2]? = some (.cells #[.int .i64 0, .string (⟨#[]⟩ : ByteArray)] 60 (0, 0))) (ds := []) #[false, false, false, false, false, false, false, false, false, false] (by kernel_rfl) rfl rfl (HS4.out) (fun hHeld => ?_); refine with_tabW read_rt4.tab read_rt4.bits (fun HT_ HW_ => ?_)
    refine pure_ (i := 0) (N := some 13) (v := ?_) (a' := ?_) #[true, false, false, false, false, false, false, false, false, false] rfl rfl (any_of HT_.out (by kernel_rfl)) (fun _ _ _ h => h) (Or.inl ⟨by rfl, ?_⟩) ?_ ?_
    rotate_left
    · intro w'
      go_simp; first | done | with_reducible rfl
    rotate_left
    · simp only [Act.put, List.setIfInBounds_toArray, List.set_cons_zero, List.set_cons_succ, i64_w, i32_w]
      rfl
    refine pure_ (i := 2) (N := some 15) (v := ?_) (a' := ?_) #[true, false, true, false, false, false, false, false, false, false] rfl rfl (any_of HT_.out (by kernel_rfl)) (fun _ _ _ h => h) (Or.inl ⟨by rfl, ?_⟩) ?_ ?_
    rotate_left
    · intro w'
      go_simp; first | done | with_reducible rfl
    rotate_left
    · simp only [Act.put, List.setIfInBounds_toArray, List.set_cons_zero, List.set_cons_succ, i64_w, i32_w]
      rfl
    refine pure_ (i := 3) (N := some 16) (v := ?_) (a' := ?_) #[true, false, true, true, false, false, false, false, false, false] rfl rfl (any_of HT_.out (by kernel_rfl)) (fun _ _ _ h => h) (Or.inl ⟨by rfl, ?_⟩) ?_ ?_
    rotate_left
    · intro w'
      go_simp; first | done | with_reducible rfl
    rotate_left
    · simp only [Act.put, List.setIfInBounds_toArray, List.set_cons_zero, List.set_cons_succ, i64_w, i32_w]
      rfl
    refine pure_ (i := 4) (N := some 17) (v := ?_) (a' := ?_) #[true, false, true, true, true, false, false, false, false, false] rfl rfl (any_of HT_.out (by kernel_rfl)) (fun _ _ _ h => h) (Or.inl ⟨by rfl, ?_⟩) ?_ ?_
    rotate_left
    · intro w'
      go_simp; first | done | with_reducible rfl
    rotate_left
    · simp only [Act.put, List.setIfInBounds_toArray, List.set_cons_zero, List.set_cons_succ, i64_w, i32_w]
      rfl
    refine pure_ (i := 5) (N := some 18) (v := .slice A3 s3.length c3) (a' := ?_) #[true, false, true, true, true, true, false, false, false, false] rfl rfl (any_of HT_.out (by kernel_rfl)) (fun _ _ _ h => h) (Or.inl ⟨by rfl, ?_⟩) ?_ ?_
    · intro w'
      have hq := HCUT.out w'
      go_simp; first | done | with_reducible rfl
    rotate_left
    · simp only [Act.put, List.setIfInBounds_toArray, List.set_cons_zero, List.set_cons_succ, i64_w, i32_w]
      rfl
    refine take_ (i := 6) (N := some 19) (v := .string s) (a' := ?_) #[true, false, true, true, true, true, true, false, false, false] rfl rfl (take_ofW HT_.out HW_.out (by kernel_rfl)) (fun _ _ _ h => h) (Or.inl ⟨by rfl, ?_⟩) hHeld ?_ ?_
    · intro w' hS'
      have hcv := Kd.C_string (P := Try.prog) (c := c3) Try.underlying23 Try.underlying5 Try.underlying9 (hS'.2.1)
      rw [HSS.out] at hcv
      go_simp; first | done | with_reducible rfl
    rotate_left
    · simp only [Act.put, List.setIfInBounds_toArray, List.set_cons_zero, List.set_cons_succ, i64_w, i32_w]
      rfl
    refine join_ (σ := Nat) 1 #[true, true, true, true, true, true, true, true, true, false] (fun s_ => [(14, .int .i64 n), (5, .pointer (some ⟨s_, 0, none⟩)), (20, .agg #[.int .i64 n, .string s])]) (fun s_ w' => (Kd.C (Kd.int .u8) w' (some ad) l0.length l0 ∧ Kd.C (Kd.int .u8) w' A3 s3.length s3 ∧ Below w.heap.size w w' ∧ w'.heap[g2]? = some (.cells #[.int .i64 0, .string (⟨#[]⟩ : ByteArray)] 60 (0, 0))) ∧ w'.heap[s_]? = some (.cells #[.int .i64 0, .string (⟨#[]⟩ : ByteArray)] 60 (0, 0)) ∧ w.heap.size ≤ s_ ∧ g2 ≠ s_) ?_ (fun hc => ?_)
    rotate_left
    · refine two_ (i := 1) (j := 8) (Ni := some 14) (Nj := some 5) #[true, true, true, true, true, true, true, false, false, false] #[true, false, true, true, true, true, true, false, true, false] rfl rfl rfl rfl (two_of HT_.out (by kernel_rfl)) (by decide) (by decide) (fun K hK => ?_) (fun K hK => ?_)
      · refine goes_ Try.func69 (by kernel_rfl) rfl #[.slice (some ad) l0.length c0, .int .i64 0] (by rfl) rfl rfl (by (try simp only [List.map_toArray, List.map_cons, List.map_nil]); first | done | rfl) ?_
        refine (ashlarref05_two.calls k (some ad) c0 l0 0 n _ hHeld.1 HC.out HN.out).mono ?_
        rintro e w5 ⟨rfl, hb⟩
        refine ⟨_, rfl, ?_⟩
        have hHeld := And.intro (Kd.C_below hHeld.1 hb.below) (And.intro (Kd.C_below hHeld.2.1 hb.below) (And.intro (below_step hHeld.2.2.1 hb.below) (blk_below hHeld.2.2.2 hb.below)))
        refine hK.out _ _ (hHeld) (fun hHeld => ?_)
        clear hK K
        refine norm_ (a' := ?_) ?_ ?_
        rotate_left
        · show Act.put _ (some 14) _ = _
          simp only [Act.put, List.setIfInBounds_toArray, List.set_cons_zero, List.set_cons_succ, i64_w, i32_w]
          rfl
        refine pure_ (i := 7) (N := some 20) (v := .agg #[.int .i64 n, .string s]) (a' := ?_) #[true, true, true, true, true, true, true, true, false, false] rfl rfl (any_of HT_.out (by kernel_rfl)) (fun _ _ _ h => h) (Or.inl ⟨by rfl, ?_⟩) ?_ ?_
        · intro w'
          go_simp; first | done | with_reducible rfl
        rotate_left
        · simp only [Act.put, List.setIfInBounds_toArray, List.set_cons_zero, List.set_cons_succ, i64_w, i32_w]
          rfl
        refine one_ (i := 8) (N := some 5) #[true, true, true, true, true, true, true, true, true, false] rfl rfl (one_of HT_.out (by kernel_rfl)) (by decide) (fun K hK => ?_)
        refine box_step (by rfl) (N := 5) rfl (cs := #[.int .i64 0, .string (⟨#[]⟩ : ByteArray)]) (t := 60) ?hr8 ?_
        case hr8 => first | (go_simp; done) | (go_simp; rfl)
        intro g5 hg5 w6 hbox hb
        have hge : w.heap.size ≤ g5 := by rw [hg5]; exact hHeld.2.2.1.size
        have hne : g2 ≠ g5 := by rw [hg5]; exact Nat.ne_of_lt (blk_lt hHeld.2.2.2)
        have hHeld := And.intro (Kd.C_below hHeld.1 hb) (And.intro (Kd.C_below hHeld.2.1 hb) (And.intro (below_step hHeld.2.2.1 hb) (blk_below hHeld.2.2.2 hb)))
        have hJ := hbox
        clear hbox hb hg5
        refine hK.out _ _ (hHeld) (fun hHeld => ?_)
        clear hK K
        refine norm_ (a' := ?_) ?_ ?_
        rotate_left
        · show Act.put _ (some 5) _ = _
          simp only [Act.put, List.setIfInBounds_toArray, List.set_cons_zero, List.set_cons_succ, i64_w, i32_w]
          rfl
        have hq := hc _ _ (⟨hHeld, hJ, hge, hne⟩)
        simp only [putAll, Act.put, List.setIfInBounds_toArray, List.set_cons_zero, List.set_cons_succ] at hq
        exact hq
      · refine box_step (by rfl) (N := 5) rfl (cs := #[.int .i64 0, .string (⟨#[]⟩ : ByteArray)]) (t := 60) ?hr8 ?_
        case hr8 => first | (go_simp; done) | (go_simp; rfl)
        intro g5 hg5 w6 hbox hb
        have hge : w.heap.size ≤ g5 := by rw [hg5]; exact hHeld.2.2.1.size
        have hne : g2 ≠ g5 := by rw [hg5]; exact Nat.ne_of_lt (blk_lt hHeld.2.2.2)
        have hHeld := And.intro (Kd.C_below hHeld.1 hb) (And.intro (Kd.C_below hHeld.2.1 hb) (And.intro (below_step hHeld.2.2.1 hb) (blk_below hHeld.2.2.2 hb)))
        have hJ := hbox
        clear hbox hb hg5
        refine hK.out _ _ (hHeld) (fun hHeld => ?_)
        clear hK K
        refine norm_ (a' := ?_) ?_ ?_
        rotate_left
        · show Act.put _ (some 5) _ = _
          simp only [Act.put, List.setIfInBounds_toArray, List.set_cons_zero, List.set_cons_succ, i64_w, i32_w]
          rfl
        refine one_ (i := 1) (N := some 14) #[true, true, true, true, true, true, true, false, true, false] rfl rfl (one_of HT_.out (by kernel_rfl)) (by decide) (fun K hK => ?_)
        refine goes_ Try.func69 (by kernel_rfl) rfl #[.slice (some ad) l0.length c0, .int .i64 0] (by rfl) rfl rfl (by (try simp only [List.map_toArray, List.map_cons, List.map_nil]); first | done | rfl) ?_
        refine (ashlarref05_two.calls k (some ad) c0 l0 0 n _ hHeld.1 HC.out HN.out).mono ?_
        rintro e w5 ⟨rfl, hb⟩
        refine ⟨_, rfl, ?_⟩
        have hJ := blk_below hJ hb.below
        have hHeld := And.intro (Kd.C_below hHeld.1 hb.below) (And.intro (Kd.C_below hHeld.2.1 hb.below) (And.intro (below_step hHeld.2.2.1 hb.below) (blk_below hHeld.2.2.2 hb.below)))
        refine hK.out _ _ (hHeld) (fun hHeld => ?_)
        clear hK K
        refine norm_ (a' := ?_) ?_ ?_
        rotate_left
        · show Act.put _ (some 14) _ = _
          simp only [Act.put, List.setIfInBounds_toArray, List.set_cons_zero, List.set_cons_succ, i64_w, i32_w]
          rfl
        refine pure_ (i := 7) (N := some 20) (v := .agg #[.int .i64 n, .string s]) (a' := ?_) #[true, true, true, true, true, true, true, true, true, false] rfl rfl (any_of HT_.out (by kernel_rfl)) (fun _ _ _ h => h) (Or.inl ⟨by rfl, ?_⟩) ?_ ?_
        · intro w'
          go_simp; first | done | with_reducible rfl
        rotate_left
        · simp only [Act.put, List.setIfInBounds_toArray, List.set_cons_zero, List.set_cons_succ, i64_w, i32_w]
          rfl
        have hq := hc _ _ (⟨hHeld, hJ, hge, hne⟩)
        simp only [putAll, Act.put, List.setIfInBounds_toArray, List.set_cons_zero, List.set_cons_succ] at hq
        exact hq
    intro g5 w6 hF
    refine norm_ (a' := ?_) ?_ ?_
    rotate_left
    · simp only [putAll, Act.put, List.setIfInBounds_toArray, List.set_cons_zero, List.set_cons_succ, i64_w, i32_w]
      rfl
    have hHeld := hF.1
    have HB6 := Aside0.mk hF.1.2.2.1
    have HK6 := Aside0.mk hF.1.2.2.2
    have HJ6 := Aside0.mk hF.2.1
    have HGE := Aside0.mk hF.2.2.1
    have HNE := Aside0.mk hF.2.2.2
    have hz0 : w6.cell? ⟨g5, 0, none⟩ = some (.int .i64 0) := (blk_cell HJ6.out 0).trans rfl
    have hz1 : w6.cell? ⟨g5, 1, none⟩ = some (.string ⟨#[]⟩) := (blk_cell HJ6.out 1).trans rfl
    have hf0 := blk_frozen HJ6.out 0
    have hf1 := blk_frozen HJ6.out 1
    clear hF
    refine one_ (i := 9) (N := none) #[true, true, true, true, true, true, true, true, true, true] rfl rfl (one_of HT_.out (by kernel_rfl)) (by decide) (fun K hK => ?_)
    refine skip_ (by rfl) rfl (w1 := (w6.setCell ⟨g5, 0, none⟩ (.int .i64 n)).setCell ⟨g5, 1, none⟩ (.string s)) ?hr9 ?_
    case hr9 => first | (go_simp; done) | (go_simp; rfl)
    have HB7 := Aside0.mk (below_set (j := 1) (v := .string s) (below_set (j := 0) (v := .int .i64 n) HB6.out HGE.out) HGE.out)
    have HJ7 := Aside0.mk (blk_put (blk_put HJ6.out 0 (.int .i64 n) rfl) 1 (.string s) rfl)
    have HK7 := Aside0.mk (blk_far (p := ⟨g5, 1, none⟩) (blk_far (p := ⟨g5, 0, none⟩) HK6.out HNE.out (.int .i64 n)) HNE.out (.string s))
    have hCB := Aside0.mk (Kd.C_below HR.out HB7.out)
    clear hz0 hz1 hf0 hf1
    refine hK.out _ _ (⟨hCB.out, HSUB.out _ hCB.out, HB7.out, HK7.out⟩) (fun hHeld => ?_)
    clear hK K
    refine done_ (done_of HT_.out (by kernel_rfl)) ?_
    have HC7 := Aside0.mk hHeld.1
    clear HT_ HW_ hHeld HS4 HK1 HB1 HB4 HK4 HB6 HK6 HJ6 HCUT HSUB
    go_upto_region 5 with (fail)
    cases b with
    | false =>
      simp only [Bool.false_eq_true, if_false, Option.some.injEq, Prod.mk.injEq] at h
      obtain ⟨rfl, rfl, rfl⟩ := h
      refine start_ (n := 14) (S := fun w' => Kd.C (Kd.int .u8) w' (some ad) l0.length l0 ∧ w'.heap[g5]? = some (.cells #[.int .i64 n, .string s] 60 (0, 0))) (ds := []) #[false, false, false, false, false, false, false, false, false, false, false, false, false, false] (by kernel_rfl) rfl rfl (And.intro (Kd.C_drew HC7.out) (blk_drew HJ7.out)) (fun hHeld => ?_); refine with_tabW read_rt5.tab read_rt5.bits (fun HT_ HW_ => ?_)
      refine take_ (i := 0) (N := some 21) (v := ?_) (a' := ?_) #[true, false, false, false, false, false, false, false, false, false, false, false, false, false] rfl rfl (take_ofW HT_.out HW_.out (by kernel_rfl)) (fun _ _ _ h => h) (Or.inl ⟨by rfl, ?_⟩) hHeld ?_ ?_
      rotate_left
      · intro w' hS'
        have hz0 := (blk_cell hS'.2 0).trans rfl
        have hz1 := (blk_cell hS'.2 1).trans rfl
        go_simp; first | done | with_reducible rfl
      rotate_left
      · simp only [Act.put, List.setIfInBounds_toArray, List.set_cons_zero, List.set_cons_succ, i64_w, i32_w]
        rfl
      refine take_ (i := 1) (N := some 22) (v := ?_) (a' := ?_) #[true, true, false, false, false, false, false, false, false, false, false, false, false, false] rfl rfl (take_ofW HT_.out HW_.out (by kernel_rfl)) (fun _ _ _ h => h) (Or.inl ⟨by rfl, ?_⟩) hHeld ?_ ?_
      rotate_left
      · intro w' hS'
        have hz0 := (blk_cell hS'.2 0).trans rfl
        have hz1 := (blk_cell hS'.2 1).trans rfl
        go_simp; first | done | with_reducible rfl
      rotate_left
      · simp only [Act.put, List.setIfInBounds_toArray, List.set_cons_zero, List.set_cons_succ, i64_w, i32_w]
        rfl
      refine one_ (i := 2) (N := some 23) #[true, true, true, false, false, false, false, false, false, false, false, false, false, false] rfl rfl (one_of HT_.out (by kernel_rfl)) (by decide) (fun K hK => ?_)
      refine goes_ Try.func34 (by kernel_rfl) rfl #[.agg #[.int .i64 n, .string s]] (by rfl) rfl rfl (by (try simp only [List.map_toArray, List.map_cons, List.map_nil]); first | done | rfl) ?_
      refine (ashlarref05_FormedEntry.calls k n s false _ HF.out).mono ?_
      rintro e w8 ⟨rfl, hb⟩
      refine ⟨_, rfl, ?_⟩
      have hHeld := And.intro (Kd.C_below hHeld.1 hb) (blk_below hHeld.2 hb)
      have HB8 := Aside0.mk (below_step (below_drew HB7.out) hb)
      have HK8 := Aside0.mk (blk_below (blk_drew HK7.out) hb)
      clear hb
      refine hK.out _ _ (hHeld) (fun hHeld => ?_)
      clear hK K
      refine norm_ (a' := ?_) ?_ ?_
      rotate_left
      · show Act.put _ (some 23) _ = _
        simp only [Act.put, List.setIfInBounds_toArray, List.set_cons_zero, List.set_cons_succ, i64_w, i32_w]
        rfl
      refine pure_ (i := 3) (N := some 24) (v := ?_) (a' := ?_) #[true, true, true, true, false, false, false, false, false, false, false, false, false, false] rfl rfl (any_of HT_.out (by kernel_rfl)) (fun _ _ _ h => h) (Or.inl ⟨by rfl, ?_⟩) ?_ ?_
      rotate_left
      · intro w'
        go_simp; first | done | with_reducible rfl
      rotate_left
      · simp only [Act.put, List.setIfInBounds_toArray, List.set_cons_zero, List.set_cons_succ, i64_w, i32_w]
        rfl
      refine pure_ (i := 4) (N := some 25) (v := undef) (a' := ?_) #[true, true, true, true, true, false, false, false, false, false, false, false, false, false] rfl rfl (any_of HT_.out (by kernel_rfl)) (fun _ _ _ h => h) (Or.inr ⟨by rfl, rfl⟩) ?_ ?_
      rotate_left
      · simp only [Act.put, List.setIfInBounds_toArray, List.set_cons_zero, List.set_cons_succ, i64_w, i32_w]
        rfl
      refine pure_ (i := 5) (N := some 26) (v := undef) (a' := ?_) #[true, true, true, true, true, true, false, false, false, false, false, false, false, false] rfl rfl (any_of HT_.out (by kernel_rfl)) (fun _ _ _ h => h) (Or.inr ⟨by rfl, rfl⟩) ?_ ?_
      rotate_left
      · simp only [Act.put, List.setIfInBounds_toArray, List.set_cons_zero, List.set_cons_succ, i64_w, i32_w]
        rfl
      refine pure_ (i := 6) (N := some 27) (v := undef) (a' := ?_) #[true, true, true, true, true, true, true, false, false, false, false, false, false, false] rfl rfl (any_of HT_.out (by kernel_rfl)) (fun _ _ _ h => h) (Or.inr ⟨by rfl, rfl⟩) ?_ ?_
      rotate_left
      · simp only [Act.put, List.setIfInBounds_toArray, List.set_cons_zero, List.set_cons_succ, i64_w, i32_w]
        rfl
      refine pure_ (i := 7) (N := some 28) (v := undef) (a' := ?_) #[true, true, true, true, true, true, true, true, false, false, false, false, false, false] rfl rfl (any_of HT_.out (by kernel_rfl)) (fun _ _ _ h => h) (Or.inr ⟨by rfl, rfl⟩) ?_ ?_
      rotate_left
      · simp only [Act.put, List.setIfInBounds_toArray, List.set_cons_zero, List.set_cons_succ, i64_w, i32_w]
        rfl
      refine pure_ (i := 8) (N := some 29) (v := undef) (a' := ?_) #[true, true, true, true, true, true, true, true, true, false, false, false, false, false] rfl rfl (any_of HT_.out (by kernel_rfl)) (fun _ _ _ h => h) (Or.inr ⟨by rfl, rfl⟩) ?_ ?_
      rotate_left
      · simp only [Act.put, List.setIfInBounds_toArray, List.set_cons_zero, List.set_cons_succ, i64_w, i32_w]
        rfl
      refine pure_ (i := 9) (N := some 30) (v := undef) (a' := ?_) #[true, true, true, true, true, true, true, true, true, true, false, false, false, false] rfl rfl (any_of HT_.out (by kernel_rfl)) (fun _ _ _ h => h) (Or.inr ⟨by rfl, rfl⟩) ?_ ?_
      rotate_left
      · simp only [Act.put, List.setIfInBounds_toArray, List.set_cons_zero, List.set_cons_succ, i64_w, i32_w]
        rfl
      refine pure_ (i := 10) (N := some 31) (v := undef) (a' := ?_) #[true, true, true, true, true, true, true, true, true, true, true, false, false, false] rfl rfl (any_of HT_.out (by kernel_rfl)) (fun _ _ _ h => h) (Or.inr ⟨by rfl, rfl⟩) ?_ ?_
      rotate_left
      · simp only [Act.put, List.setIfInBounds_toArray, List.set_cons_zero, List.set_cons_succ, i64_w, i32_w]
        rfl
      refine pure_ (i := 11) (N := some 32) (v := ?_) (a' := ?_) #[true, true, true, true, true, true, true, true, true, true, true, true, false, false] rfl rfl (any_of HT_.out (by kernel_rfl)) (fun _ _ _ h => h) (Or.inl ⟨by rfl, ?_⟩) ?_ ?_
      rotate_left
      · intro w'
        go_simp; first | done | with_reducible rfl
      rotate_left
      · simp only [Act.put, List.setIfInBounds_toArray, List.set_cons_zero, List.set_cons_succ, i64_w, i32_w]
        rfl
      refine one_ (i := 12) (N := none) #[true, true, true, true, true, true, true, true, true, true, true, true, true, false] rfl rfl (one_of HT_.out (by kernel_rfl)) (by decide) (fun K hK => ?_)
      have hz0 : w8.cell? ⟨g2, 0, none⟩ = some (.int .i64 0) := (blk_cell HK8.out 0).trans rfl
      have hz1 : w8.cell? ⟨g2, 1, none⟩ = some (.string ⟨#[]⟩) := (blk_cell HK8.out 1).trans rfl
      have hf0 := blk_frozen HK8.out 0
      have hf1 := blk_frozen HK8.out 1
      refine skip_ (by rfl) rfl (w1 := (w8.setCell ⟨g2, 0, none⟩ (.int .i64 n)).setCell ⟨g2, 1, none⟩ (.string s)) ?hr12 ?_
      case hr12 => first | (go_simp; done) | (go_simp; rfl)
      have HBZ := Aside0.mk (below_set (j := 1) (v := .string s) (below_set (j := 0) (v := .int .i64 n) HB8.out HG2.out) HG2.out)
      have HKZ := Aside0.mk (blk_put (blk_put HK8.out 0 (.int .i64 n) rfl) 1 (.string s) rfl)
      refine hK.out _ _ (And.intro (Kd.C_below HR.out HBZ.out) (blk_far (p := ⟨g2, 1, none⟩) (blk_far (p := ⟨g2, 0, none⟩) hHeld.2 (Ne.symm HNE.out) (.int .i64 n)) (Ne.symm HNE.out) (.string s))) (fun hHeld => ?_)
      clear hK K
      refine pure_ (i := 13) (N := some 3) (v := ?_) (a' := ?_) #[true, true, true, true, true, true, true, true, true, true, true, true, true, true] rfl rfl (any_of HT_.out (by kernel_rfl)) (fun _ _ _ h => h) (Or.inl ⟨by rfl, ?_⟩) ?_ ?_
      rotate_left
      · intro w'
        go_simp; first | done | with_reducible rfl
      rotate_left
      · simp only [Act.put, List.setIfInBounds_toArray, List.set_cons_zero, List.set_cons_succ, i64_w, i32_w]
        rfl
      refine done_ (done_of HT_.out (by kernel_rfl)) ?_
      clear HT_ HW_ hHeld
      go_wp2
      refine bodyPost_ret (results_ct rfl _ _ g2 60 #[.int .i64 n, .string s] (0, 0) _ rfl HKZ.out Try.underlying60 rfl (by kernel_rfl)) rfl ?_
      exact ⟨by first | rfl | simp, HBZ.out⟩
    | true =>
      simp only [if_true] at h
      obtain ⟨y, hy, h⟩ := Option.bind_eq_some_iff.1 h
      simp only [Option.some.injEq, Prod.mk.injEq] at h
      obtain ⟨rfl, rfl, hr3⟩ := h
      have HY := Aside0.mk hy
      have HR3 := Aside0.mk hr3
      clear hy hr3
      refine start_ (n := 14) (S := fun w' => Kd.C (Kd.int .u8) w' (some ad) l0.length l0 ∧ w'.heap[g5]? = some (.cells #[.int .i64 n, .string s] 60 (0, 0))) (ds := []) #[false, false, false, false, false, false, false, false, false, false, false, false, false, false] (by kernel_rfl) rfl rfl (And.intro (Kd.C_drew HC7.out) (blk_drew HJ7.out)) (fun hHeld => ?_); refine with_tabW read_rt5.tab read_rt5.bits (fun HT_ HW_ => ?_)
      refine take_ (i := 0) (N := some 21) (v := ?_) (a' := ?_) #[true, false, false, false, false, false, false, false, false, false, false, false, false, false] rfl rfl (take_ofW HT_.out HW_.out (by kernel_rfl)) (fun _ _ _ h => h) (Or.inl ⟨by rfl, ?_⟩) hHeld ?_ ?_
      rotate_left
      · intro w' hS'
        have hz0 := (blk_cell hS'.2 0).trans rfl
        have hz1 := (blk_cell hS'.2 1).trans rfl
        go_simp; first | done | with_reducible rfl
      rotate_left
      · simp only [Act.put, List.setIfInBounds_toArray, List.set_cons_zero, List.set_cons_succ, i64_w, i32_w]
        rfl
      refine take_ (i := 1) (N := some 22) (v := ?_) (a' := ?_) #[true, true, false, false, false, false, false, false, false, false, false, false, false, false] rfl rfl (take_ofW HT_.out HW_.out (by kernel_rfl)) (fun _ _ _ h => h) (Or.inl ⟨by rfl, ?_⟩) hHeld ?_ ?_
      rotate_left
      · intro w' hS'
        have hz0 := (blk_cell hS'.2 0).trans rfl
        have hz1 := (blk_cell hS'.2 1).trans rfl
        go_simp; first | done | with_reducible rfl
      rotate_left
      · simp only [Act.put, List.setIfInBounds_toArray, List.set_cons_zero, List.set_cons_succ, i64_w, i32_w]
        rfl
      refine one_ (i := 2) (N := some 23) #[true, true, true, false, false, false, false, false, false, false, false, false, false, false] rfl rfl (one_of HT_.out (by kernel_rfl)) (by decide) (fun K hK => ?_)
      refine goes_ Try.func34 (by kernel_rfl) rfl #[.agg #[.int .i64 n, .string s]] (by rfl) rfl rfl (by (try simp only [List.map_toArray, List.map_cons, List.map_nil]); first | done | rfl) ?_
      refine (ashlarref05_FormedEntry.calls k n s true _ HF.out).mono ?_
      rintro e w8 ⟨rfl, hb⟩
      refine ⟨_, rfl, ?_⟩
      have hHeld := And.intro (Kd.C_below hHeld.1 hb) (blk_below hHeld.2 hb)
      have HB8 := Aside0.mk (below_step (below_drew HB7.out) hb)
      have HK8 := Aside0.mk (blk_below (blk_drew HK7.out) hb)
      clear hb
      refine hK.out _ _ (hHeld) (fun hHeld => ?_)
      clear hK K
      refine norm_ (a' := ?_) ?_ ?_
      rotate_left
      · show Act.put _ (some 23) _ = _
        simp only [Act.put, List.setIfInBounds_toArray, List.set_cons_zero, List.set_cons_succ, i64_w, i32_w]
        rfl
      refine pure_ (i := 3) (N := some 24) (v := ?_) (a' := ?_) #[true, true, true, true, false, false, false, false, false, false, false, false, false, false] rfl rfl (any_of HT_.out (by kernel_rfl)) (fun _ _ _ h => h) (Or.inl ⟨by rfl, ?_⟩) ?_ ?_
      rotate_left
      · intro w'
        go_simp; first | done | with_reducible rfl
      rotate_left
      · simp only [Act.put, List.setIfInBounds_toArray, List.set_cons_zero, List.set_cons_succ, i64_w, i32_w]
        rfl
      refine pure_ (i := 7) (N := some 28) (v := ?_) (a' := ?_) #[true, true, true, true, false, false, false, true, false, false, false, false, false, false] rfl rfl (any_of HT_.out (by kernel_rfl)) (fun _ _ _ h => h) (Or.inl ⟨by rfl, ?_⟩) ?_ ?_
      rotate_left
      · intro w'
        go_simp; first | done | with_reducible rfl
      rotate_left
      · simp only [Act.put, List.setIfInBounds_toArray, List.set_cons_zero, List.set_cons_succ, i64_w, i32_w]
        rfl
      refine pure_ (i := 8) (N := some 29) (v := .slice (some ad) 16 c0) (a' := ?_) #[true, true, true, true, false, false, false, true, true, false, false, false, false, false] rfl rfl (any_of HT_.out (by kernel_rfl)) (fun _ _ _ h => h) (Or.inl ⟨by rfl, ?_⟩) ?_ ?_
      · intro w'
        have hq := HC16.out w'
        go_simp; first | done | with_reducible rfl
      rotate_left
      · simp only [Act.put, List.setIfInBounds_toArray, List.set_cons_zero, List.set_cons_succ, i64_w, i32_w]
        rfl
      refine take_ (i := 4) (N := some 25) (v := ?_) (a' := ?_) #[true, true, true, true, true, false, false, true, true, false, false, false, false, false] rfl rfl (take_ofW HT_.out HW_.out (by kernel_rfl)) (fun _ _ _ h => h) (Or.inl ⟨by rfl, ?_⟩) hHeld ?_ ?_
      rotate_left
      · intro w' hS'
        have hz0 := (blk_cell hS'.2 0).trans rfl
        have hz1 := (blk_cell hS'.2 1).trans rfl
        go_simp; first | done | with_reducible rfl
      rotate_left
      · simp only [Act.put, List.setIfInBounds_toArray, List.set_cons_zero, List.set_cons_succ, i64_w, i32_w]
        rfl
      refine take_ (i := 9) (N := some 30) (v := .string (strOfNums (l0.take 16))) (a' := ?_) #[true, true, true, true, true, false, false, true, true, true, false, false, false, false] rfl rfl (take_ofW HT_.out HW_.out (by kernel_rfl)) (fun _ _ _ h => h) (Or.inl ⟨by rfl, ?_⟩) hHeld ?_ ?_
      · intro w' hS'
        have hcv := H16S.out _ hS'.1
        go_simp; first | done | with_reducible rfl
      rotate_left
      · simp only [Act.put, List.setIfInBounds_toArray, List.set_cons_zero, List.set_cons_succ, i64_w, i32_w]
        rfl
      refine one_ (i := 5) (N := some 26) #[true, true, true, true, true, true, false, true, true, true, false, false, false, false] rfl rfl (one_of HT_.out (by kernel_rfl)) (by decide) (fun K hK => ?_)
      refine goes_ Try.func76 (by kernel_rfl) rfl #[.agg #[.int .i64 n, .string s]] (by rfl) rfl rfl (by (try simp only [List.map_toArray, List.map_cons, List.map_nil]); first | done | rfl) ?_
      refine (ashlarref05_Spelt.calls k n s y _ HY.out).mono ?_
      rintro e w9 ⟨vy, rfl, ho, hb⟩
      refine ⟨_, rfl, ?_⟩
      obtain ⟨Ay, cy, rfl⟩ := Kd.R_slice ho
      have hHeld := And.intro (Kd.C_below hHeld.1 hb) (blk_below hHeld.2 hb)
      have HB9 := Aside0.mk (below_step HB8.out hb)
      have HK9 := Aside0.mk (blk_below HK8.out hb)
      have HCY := Aside0.mk ho
      clear ho hb
      refine hK.out _ _ (hHeld) (fun hHeld => ?_)
      clear hK K
      refine norm_ (a' := ?_) ?_ ?_
      rotate_left
      · show Act.put _ (some 26) _ = _
        simp only [Act.put, List.setIfInBounds_toArray, List.set_cons_zero, List.set_cons_succ, i64_w, i32_w]
        rfl
      refine up_to (fun w' => Kd.R (Kd.int .u8) 5 w' w8.heap.size (fun _ => True) (.slice Ay y.length cy) y) hHeld HCY.out (fun hHeld => ?_)
      refine take_ (i := 6) (N := some 27) (v := .string (strOfNums y)) (a' := ?_) #[true, true, true, true, true, true, true, true, true, true, false, false, false, false] rfl rfl (take_ofW HT_.out HW_.out (by kernel_rfl)) (fun _ _ _ h => h) (Or.inl ⟨by rfl, ?_⟩) hHeld ?_ ?_
      · intro w' hS'
        have hcv := Kd.C_string (P := Try.prog) (c := cy) Try.underlying23 Try.underlying5 Try.underlying9 ((Kd.R_reads' hS'.2).2.2)
        go_simp; first | done | with_reducible rfl
      rotate_left
      · simp only [Act.put, List.setIfInBounds_toArray, List.set_cons_zero, List.set_cons_succ, i64_w, i32_w]
        rfl
      refine pure_ (i := 10) (N := some 31) (v := ?_) (a' := ?_) #[true, true, true, true, true, true, true, true, true, true, true, false, false, false] rfl rfl (any_of HT_.out (by kernel_rfl)) (fun _ _ _ h => h) (Or.inl ⟨by rfl, ?_⟩) ?_ ?_
      rotate_left
      · intro w'
        go_simp; first | done | with_reducible rfl
      rotate_left
      · simp only [Act.put, List.setIfInBounds_toArray, List.set_cons_zero, List.set_cons_succ, i64_w, i32_w]
        rfl
      refine pure_ (i := 11) (N := some 32) (v := ?_) (a' := ?_) #[true, true, true, true, true, true, true, true, true, true, true, true, false, false] rfl rfl (any_of HT_.out (by kernel_rfl)) (fun _ _ _ h => h) (Or.inl ⟨by rfl, ?_⟩) ?_ ?_
      rotate_left
      · intro w'
        go_simp; first | done | with_reducible rfl
      rotate_left
      · simp only [Act.put, List.setIfInBounds_toArray, List.set_cons_zero, List.set_cons_succ, i64_w, i32_w]
        rfl
      refine one_ (i := 12) (N := none) #[true, true, true, true, true, true, true, true, true, true, true, true, true, false] rfl rfl (one_of HT_.out (by kernel_rfl)) (by decide) (fun K hK => ?_)
      have hz0 : w9.cell? ⟨g2, 0, none⟩ = some (.int .i64 0) := (blk_cell HK9.out 0).trans rfl
      have hz1 : w9.cell? ⟨g2, 1, none⟩ = some (.string ⟨#[]⟩) := (blk_cell HK9.out 1).trans rfl
      have hf0 := blk_frozen HK9.out 0
      have hf1 := blk_frozen HK9.out 1
      refine skip_ (by rfl) rfl (w1 := (w9.setCell ⟨g2, 0, none⟩ (.int .i64 n)).setCell ⟨g2, 1, none⟩ (.string s)) ?hr12 ?_
      case hr12 => first | (go_simp; done) | (go_simp; rfl)
      have HBZ := Aside0.mk (below_set (j := 1) (v := .string s) (below_set (j := 0) (v := .int .i64 n) HB9.out HG2.out) HG2.out)
      have HKZ := Aside0.mk (blk_put (blk_put HK9.out 0 (.int .i64 n) rfl) 1 (.string s) rfl)
      refine hK.out _ _ (And.intro (And.intro (Kd.C_below HR.out HBZ.out) (blk_far (p := ⟨g2, 1, none⟩) (blk_far (p := ⟨g2, 0, none⟩) hHeld.1.2 (Ne.symm HNE.out) (.int .i64 n)) (Ne.symm HNE.out) (.string s))) (Kd.R_set (Kd.R_set hHeld.2 HK9.out (by decide) 0 (.int .i64 n)) (blk_put HK9.out 0 (.int .i64 n) rfl) (by decide) 1 (.string s))) (fun hHeld => ?_)
      clear hK K
      refine pure_ (i := 13) (N := some 3) (v := ?_) (a' := ?_) #[true, true, true, true, true, true, true, true, true, true, true, true, true, true] rfl rfl (any_of HT_.out (by kernel_rfl)) (fun _ _ _ h => h) (Or.inl ⟨by rfl, ?_⟩) ?_ ?_
      rotate_left
      · intro w'
        go_simp; first | done | with_reducible rfl
      rotate_left
      · simp only [Act.put, List.setIfInBounds_toArray, List.set_cons_zero, List.set_cons_succ, i64_w, i32_w]
        rfl
      refine done_ (done_of HT_.out (by kernel_rfl)) ?_
      clear HT_ HW_ hHeld
      go_wp2
      refine bodyPost_ret (results_ct rfl _ _ g2 60 #[.int .i64 n, .string s] (0, 0) _ rfl HKZ.out Try.underlying60 rfl (by kernel_rfl)) rfl ?_
      exact ⟨by rw [← HR3.out]; first | rfl | simp, HBZ.out⟩


/-! ### ashlarref05_DecodeDir: function 40 -/
def ashlarref05_DecodeDir.l0 : Nat → List Int → List (S60) → Int → Option ((List (S60)) × Int)
  | 0, _, _, _ => none
  | k + 1, x0, x4, x13 => if x13 < 16 then (if 0 ≤ (wrap64 (16 * x13)) then (if (wrap64 (16 * x13)) ≤ (x0.length : Int) then ((ashlarref05_Read.f k (x0.drop ((wrap64 (16 * x13)) : Int).toNat)).bind fun bt192 => (if bt192.2.2 = true then (if x4.length < 5864062014805 then (ashlarref05_DecodeDir.l0 k x0 (x4 ++ [(⟨bt192.1, bt192.2.1⟩ : S60)]) (wrap64 (x13 + 1))) else (none)) else ((ashlarref05_EncodeDir.f k x4).bind fun bt199 => (if (strOfNums bt199.1).toList = (strOfNums x0).toList then (some (x4, 0)) else (some (([] : List (S60)), 18)))))) else (none)) else (none)) else ((ashlarref05_EncodeDir.f k x4).bind fun bt203 => (if (strOfNums bt203.1).toList = (strOfNums x0).toList then (some (x4, 0)) else (some (([] : List (S60)), 18))))
def ashlarref05_DecodeDir.f (k : Nat) (l0 : List Int) : Option ((List (S60)) × Int) := if (l0.length : Int) = 256 then (ashlarref05_DecodeDir.l0 k l0 ([] : List (S60)) 0) else (some (([] : List (S60)), 18))
theorem ashlarref05_DecodeDir.mono_l : ∀ k, (∀ y0 y1 y2, LeO (ashlarref05_DecodeDir.l0 k y0 y1 y2) (ashlarref05_DecodeDir.l0 (k + 1) y0 y1 y2))
  | 0 => fun _ _ _ r h => by simp [ashlarref05_DecodeDir.l0] at h
  | k + 1 => by
    have ih0 := ashlarref05_DecodeDir.mono_l k
    · intro y0 y1 y2
      unfold ashlarref05_DecodeDir.l0
      repeat' first
      | (with_reducible exact ih0 _ _ _)
      | (with_reducible exact ashlarref05_EncodeDir.mono _ _)
      | (with_reducible exact ashlarref05_Read.mono _ _)
      | (with_reducible exact LeO.refl _)
      | (with_reducible exact LeO.none _)
      | (with_reducible refine LeO.ite ?_ ?_)
      | (with_reducible refine LeO.bind ?_ (fun _ => ?_))
      | exact ih0 _ _ _
      | exact ashlarref05_EncodeDir.mono _ _
      | exact ashlarref05_Read.mono _ _
      | exact LeO.none _
      | refine LeO.ite ?_ ?_
      | refine LeO.bind ?_ (fun _ => ?_)
theorem ashlarref05_DecodeDir.mono : ∀ a0 k, LeO (ashlarref05_DecodeDir.f k a0) (ashlarref05_DecodeDir.f (k + 1) a0) := by
  intro a0 k
  have ih0 := ashlarref05_DecodeDir.mono_l k
  unfold ashlarref05_DecodeDir.f
  repeat' first
      | (with_reducible exact ih0 _ _ _)
      | (with_reducible exact ashlarref05_EncodeDir.mono _ _)
      | (with_reducible exact ashlarref05_Read.mono _ _)
      | (with_reducible exact LeO.refl _)
      | (with_reducible exact LeO.none _)
      | (with_reducible refine LeO.ite ?_ ?_)
      | (with_reducible refine LeO.bind ?_ (fun _ => ?_))
      | exact ih0 _ _ _
      | exact ashlarref05_EncodeDir.mono _ _
      | exact ashlarref05_Read.mono _ _
      | exact LeO.none _
      | refine LeO.ite ?_ ?_
      | refine LeO.bind ?_ (fun _ => ?_)
set_option maxHeartbeats 8000000 in
set_option maxRecDepth 100000 in
theorem ashlarref05_DecodeDir.calls (k : Nat) (A0 : Option Addr) (c0 : Nat) (l0 : List Int) (r1 : List (S60)) (r2 : Int) (w : World) (hr0 : Kd.C (Kd.int .u8) w A0 l0.length l0) (hc0 : l0.length ≤ c0) (h : ashlarref05_DecodeDir.f k l0 = some (r1, r2)) :
    Calls Try.prog 40 #[.slice A0 l0.length c0] w fun e w' => ∃ v0_ : Value, e = .returned (.tuple #[v0_, .int .i64 r2]) ∧ Kd.R k60 60 w' w.heap.size (fun _ => True) v0_ r1 ∧ Below w.heap.size w w' := by
  have hu60 := Try.underlying60
  have HR0 := Aside0.mk hr0
  have HC0 := Aside0.mk hc0
  clear hr0 hc0
  have HB := Aside0.mk (Below.refl w.heap.size w)
  have H : (if (l0.length : Int) = 256 then (ashlarref05_DecodeDir.l0 k l0 ([] : List (S60)) 0) else (some (([] : List (S60)), 18))) = some (r1, r2) := h
  clear h
  by_cases c2 : (l0.length : Int) = 256
  · rw [if_pos c2] at H
    have c2b0 : ((l0.length : Int) == 256) = true := beq_iff_eq.mpr c2
    have c2b1 : ((l0.length : Int) != 256) = false := bne_eq_false_iff_eq.mpr c2
    clear c2
    have H' := Aside0.mk H
    clear H
    go_enter Try.func40, Try.ntmps40
    go_wp2
    go_loopg [4, 13] k (fun kq v4 v13 w' => ∃ (x4_1 : List (S60)) (x13_1 : Int), v13 = .int .i64 x13_1 ∧ Aside0 (ashlarref05_DecodeDir.l0 kq l0 x4_1 x13_1 = some (r1, r2)) ∧ Aside0 (kq ≤ k) ∧ Aside0 (Kd.R k60 60 w' w.heap.size (fun _ => True) v4 x4_1) ∧ Aside0 (Below w.heap.size w w'))
    case atStart => exact ⟨(([] : List (S60))), (0), (by first | rfl | (simp; done) | (simp [*]; done)), H', ⟨Nat.le_refl _⟩, ⟨by first | exact Kd.R_nil _ _ _ _ _ | exact Kd.N_nil _ _ _ _ _ | exact Kd.V_nil _ _ _ _ _ | exact Kd.Q_nil _ _ _ _ _ | exact Kd.S_nil _ _ _ _ _⟩, ⟨by repeat (first | (with_reducible first | exact HB.out | apply below_alloc | apply pw_below_drewN | apply below_drew1) | exact HB.out)⟩⟩
    case round =>
      clear H'
      try clear c2
      try clear c2b0
      try clear c2b1
      try clear p2
      obtain ⟨x4_1, x13_1, rfl, HA, HK1, HO_4, HB⟩ := hrel
      cases gk with
      | zero => exact absurd HA.out (by simp [ashlarref05_DecodeDir.l0])
      | succ k1 =>
        have H := HA.out
        clear HA
        simp only [ashlarref05_DecodeDir.l0] at H
        by_cases c3 : x13_1 < 16
        · rw [if_pos c3] at H
          have c3b0 : decide (x13_1 < 16) = true := decide_eq_true c3
          clear c3
          obtain ⟨ji4, hji4⟩ : ∃ j_ : Int, (wrap64 (16 * x13_1)) = j_ := ⟨_, rfl⟩
          replace H : (if 0 ≤ (ji4) then (if (ji4) ≤ (l0.length : Int) then ((ashlarref05_Read.f k1 (l0.drop ((ji4) : Int).toNat)).bind fun bt192 => (if bt192.2.2 = true then (if x4_1.length < 5864062014805 then (ashlarref05_DecodeDir.l0 k1 l0 (x4_1 ++ [(⟨bt192.1, bt192.2.1⟩ : S60)]) (wrap64 (x13_1 + 1))) else (none)) else ((ashlarref05_EncodeDir.f k1 x4_1).bind fun bt199 => (if (strOfNums bt199.1).toList = (strOfNums l0).toList then (some (x4_1, 0)) else (some (([] : List (S60)), 18)))))) else (none)) else (none)) = some (r1, r2) := by first | (rw [hji4] at H; exact H) | (simp only [hji4] at H ⊢; exact H)
          have hji4w : (IntKind.i64.wrap (16 * x13_1)) = ji4 := (i64_w _).trans hji4
          by_cases c5 : 0 ≤ (ji4)
          · rw [if_pos c5] at H
            have c5b0 := eq_true c5
            have c5b1 : decide (0 ≤ (ji4)) = true := decide_eq_true c5
            clear c5
            by_cases c6 : (ji4) ≤ (l0.length : Int)
            · rw [if_pos c6] at H
              have c6b0 := eq_true c6
              have c6b1 : decide ((ji4) ≤ (l0.length : Int)) = true := decide_eq_true c6
              clear c6
              replace H := Option.bind_eq_some_iff.mp H
              obtain ⟨⟨t192, t193, t194⟩, A70, H⟩ := H
              replace H : (if t194 = true then (if x4_1.length < 5864062014805 then (ashlarref05_DecodeDir.l0 k1 l0 (x4_1 ++ [(⟨t192, t193⟩ : S60)]) (wrap64 (x13_1 + 1))) else (none)) else ((ashlarref05_EncodeDir.f k1 x4_1).bind fun bt199 => (if (strOfNums bt199.1).toList = (strOfNums l0).toList then (some (x4_1, 0)) else (some (([] : List (S60)), 18))))) = some (r1, r2) := H
              have A7 := Aside0.mk A70
              clear A70
              by_cases c8 : t194 = true
              · subst c8
                have H1 : (if x4_1.length < 5864062014805 then (ashlarref05_DecodeDir.l0 k1 l0 (x4_1 ++ [(⟨t192, t193⟩ : S60)]) (wrap64 (x13_1 + 1))) else (none)) = some (r1, r2) := by rw [if_pos rfl] at H; exact H
                clear H
                have H := H1
                clear H1
                by_cases c9 : x4_1.length < 5864062014805
                · rw [if_pos c9] at H
                  have LMc9 := Aside0.mk c9
                  clear c9
                  obtain ⟨y196, hy196⟩ : ∃ y_ : List (S60), y_ = (x4_1 ++ [(⟨t192, t193⟩ : S60)]) := ⟨_, rfl⟩
                  replace H : (ashlarref05_DecodeDir.l0 k1 l0 y196 (wrap64 (x13_1 + 1))) = some (r1, r2) := by first | (rw [hy196]; with_reducible exact H) | (have H2_ := (Option.bind_some _ _).symm.trans H; rw [hy196]; with_reducible exact H2_) | (have H2_ := (Option.bind_some _ _).symm.trans H; with_reducible exact H2_) | with_reducible exact H | (rw [hy196]; exact H) | exact H
                  have Ny196 := Aside0.mk hy196
                  clear hy196
                  have H' := Aside0.mk H
                  clear H
                  obtain ⟨i010, hi010, _, hsz10, _⟩ := info_parts info5
                  obtain ⟨A10, hcut10, hA10, hC10⟩ := print_drop_of (P := Try.prog) (Value.int .u8) 0 23 5 .i64 Try.underlying23 hi010 hsz10 A0 c0 l0 (ji4) (of_decide_eq_true (by first | (with_reducible assumption) | assumption)) (of_decide_eq_true (by first | (with_reducible assumption) | assumption)) HC0.out
                  have HR191 := Aside0.mk (Kd.C_of_reads (h1 := fun _ => rfl) (hA10 _ (Kd.reads_of_C HR0.out)))
                  have HC191 := Aside0.mk hC10
                  clear hA10 hC10 hi010 hsz10
                  go_wp2_with (first | ((with_reducible refine gate_callee (f := 79) rfl ?_); refine goesL_ (some 21) rfl rfl Try.func79 (by kernel_rfl) rfl #[.slice A10 (l0.drop ((ji4) : Int).toNat).length (c0 - (ji4).toNat)] rfl (by (try simp only [List.map_toArray, List.map_cons, List.map_nil]); first | done | (rw [show (l0.drop ((ji4) : Int).toNat).length = (l0.length - (ji4).toNat) from List.length_drop] <;> rfl) | (simp only [hji4]; rfl) | rfl | (simp only [List.length_drop, List.length_take]; rfl)) ?_; (with_reducible refine (ashlarref05_Read.calls k1 _ _ (l0.drop ((ji4) : Int).toNat) t192 t193 true _ ?side1 ?side2 A7.out).mono ?_); (case side1 => repeat (first | exact (Kd.C_below HR191.out HB.out) | (with_reducible refine Kd.C_alloc ?_ _) | (with_reducible refine Kd.C_drewN ?_ _) | (with_reducible refine Kd.C_drew ?_))); (case side2 => exact HC191.out); rintro e w11 ⟨rfl, hb⟩; refine ⟨_, rfl, ?_⟩; have n0_ := Aside0.mk (Kd.R_below (by (with_reducible repeat (first | apply Kd.R_alloc | apply Kd.R_drewN | apply Kd.R_drew)); exact HO_4.out) hb); have n1_ := Aside0.mk (below_step (by repeat (first | (with_reducible first | exact HB.out | apply below_alloc | apply pw_below_drewN | apply below_drew1) | exact HB.out)) hb); clear HO_4; clear HB; have HO_4 := n0_; have HB := n1_; clear n0_ n1_; (try clear hb); (try clear hb2); (try clear hk); (try clear hi)) | ((with_reducible refine gate_dst (N := 6) rfl ?_); refine box_event ?hg (N := 6) ?hd (cs := #[.int .i64 0, .string (⟨#[]⟩ : ByteArray)]) (t := 60) ?hr ?_; (case hd => rfl); (case hg => rfl); (case hr => first | (go_simp; done) | (go_simp; rfl)); intro gb195 hg w12 hbox hb; have n0_ := Aside0.mk (Kd.R_below (Kd.R_elderB (by (with_reducible repeat (first | apply Kd.R_alloc | apply Kd.R_drewN | apply Kd.R_drew)); exact HO_4.out) gb195 (Nat.le_of_eq hg.symm)) hb); have n1_ := Aside0.mk (below_step (by repeat (first | (with_reducible first | exact HB.out | apply below_alloc | apply pw_below_drewN | apply below_drew1) | exact HB.out)) hb); have n2_ := Aside0.mk (hbox); have n3_ := Aside0.mk ((by rw [hg]; exact (below_size (by repeat (first | (with_reducible first | exact HB.out | apply below_alloc | apply pw_below_drewN | apply below_drew1) | exact HB.out))) : w.heap.size ≤ gb195)); have n4_ := Aside0.mk ((by rw [hg]; exact (below_size (by repeat (first | (with_reducible first | exact HB.out | apply below_alloc | apply pw_below_drewN | apply below_drew1) | exact HB.out))) : w.heap.size ≤ gb195)); clear HO_4; clear HB; have HO_4 := n0_; have HB := n1_; have BK195 := n2_; have GW195 := n3_; have GE195 := n4_; clear n0_ n1_ n2_ n3_ n4_; clear hb hbox hg; have hcz13_0 : w12.cell? ⟨gb195, 0, none⟩ = some (.int .i64 0) := (blk_cell BK195.out 0).trans rfl; have hcz13_1 : w12.cell? ⟨gb195, 1, none⟩ = some (.string (⟨#[]⟩ : ByteArray)) := (blk_cell BK195.out 1).trans rfl; have hfz13_0 := blk_frozen BK195.out 0; have hfz13_1 := blk_frozen BK195.out 1) | ((with_reducible refine gate_builtin (b := .append) (xs := #[.tmp 26, .tmp 28]) rfl ?_); at_builtin; refine Kd.R_append k60 (w0 := w) w.heap.size rfl (.tmp 26) (.tmp 28) 52 60 (.agg #[(.int .i64 0), (.string ⟨#[]⟩)]) 24 rfl Try.underlying52 info60 rfl (by decide) (by omega) u4 x4_1 (⟨t192, t193⟩ : S60) [.int .i64 t192, .string t193] (fun k_ => k_ ≠ gb195) (fun _ => False) rfl (by first | (go_simp; done) | (go_simp; rfl)) ?aP (fun _ hk => hk.elim) ?aF ?aO ?aB ?aS ?aL ?_; (case aP => exact k60_mkM _ _ _ (⟨t192, t193⟩ : S60)); (case aB => exact (by repeat (first | (with_reducible first | exact HB.out | apply below_alloc | apply pw_below_drewN | apply below_drew1 | refine below_set ?_ GE195.out) | exact HB.out))); (case aF => exact (fun k_ hk => Kd.freshB (g := gb195) (o := .cells #[.int .i64 t192, .string t193] 60 (0, 0)) (by (with_reducible repeat (first | refine blk_drewN ?_ _ | refine blk_drew ?_ | refine blk_alloc ?_ _)); refine blk_put (cs := #[.int .i64 t192, .string (⟨#[]⟩ : ByteArray)]) ?_ 1 _ rfl; (with_reducible repeat (first | refine blk_drewN ?_ _ | refine blk_drew ?_ | refine blk_alloc ?_ _)); refine blk_put (cs := #[.int .i64 0, .string (⟨#[]⟩ : ByteArray)]) ?_ 0 _ rfl; (with_reducible repeat (first | refine blk_drewN ?_ _ | refine blk_drew ?_ | refine blk_alloc ?_ _)); exact BK195.out) k_ hk)); (case aO => exact (by (with_reducible repeat (first | apply Kd.R_alloc | apply Kd.R_drewN | apply Kd.R_drew)); exact Kd.R_mono (Kd.R_far (p := ⟨gb195, 1, none⟩) (Kd.R_far (p := ⟨gb195, 0, none⟩) (Kd.R_mono HO_4.out (fun k_ hk => (⟨hk, hk.2⟩ : _ ∧ k_ ≠ gb195))) (fun _ hk => hk.2) (.int .i64 t192)) (fun _ hk => hk.2) (.string t193)) (fun _ hk => hk.1.2))); (case aS => exact (below_size (by repeat (first | (with_reducible first | exact HB.out | apply below_alloc | apply pw_below_drewN | apply below_drew1 | refine below_set ?_ GE195.out) | exact HB.out)))); (case aL => have := LMc9.out; omega); intro v197 w14 ho hb hg hat; rw [← Ny196.out] at ho; have n0_ := Aside0.mk (blk_grown (g := gb195) (o := .cells #[.int .i64 t192, .string t193] 60 (0, 0)) (by (with_reducible repeat (first | refine blk_drewN ?_ _ | refine blk_drew ?_ | refine blk_alloc ?_ _)); refine blk_put (cs := #[.int .i64 t192, .string (⟨#[]⟩ : ByteArray)]) ?_ 1 _ rfl; (with_reducible repeat (first | refine blk_drewN ?_ _ | refine blk_drew ?_ | refine blk_alloc ?_ _)); refine blk_put (cs := #[.int .i64 0, .string (⟨#[]⟩ : ByteArray)]) ?_ 0 _ rfl; (with_reducible repeat (first | refine blk_drewN ?_ _ | refine blk_drew ?_ | refine blk_alloc ?_ _)); exact BK195.out) hg (Kd.R_away HO_4.out (fun _ hk => hk.2))); have n1_ := Aside0.mk (hb); have n2_ := Aside0.mk (ho); clear BK195; clear HB; clear HO_4; have BK195 := n0_; have HB := n1_; have HO198 := n2_; clear n0_ n1_ n2_; clear ho hb hg hat))
                  go_roundg k1
                  case measure => have := HK1.out; omega
                  case rel => exact ⟨(y196), (wrap64 (x13_1 + 1)), (by first | rfl | (simp; done) | (simp [*]; done)), H', ⟨by have := HK1.out; omega⟩, ⟨by (with_reducible repeat (first | apply Kd.R_alloc | apply Kd.R_drewN | apply Kd.R_drew)); exact Kd.R_mono HO198.out (fun _ hk => trivial)⟩, ⟨by repeat (first | (with_reducible first | exact HB.out | apply below_alloc | apply pw_below_drewN | apply below_drew1 | refine below_set ?_ GE195.out) | exact HB.out)⟩⟩
                · rw [if_neg c9] at H
                  exact absurd H (by simp)
              · replace c8 := Bool.eq_false_iff.mpr c8
                subst c8
                have H1 : ((ashlarref05_EncodeDir.f k1 x4_1).bind fun bt199 => (if (strOfNums bt199.1).toList = (strOfNums l0).toList then (some (x4_1, 0)) else (some (([] : List (S60)), 18)))) = some (r1, r2) := by rw [if_neg (show ¬ (false = true) by decide)] at H; exact H
                clear H
                have H := H1
                clear H1
                replace H := Option.bind_eq_some_iff.mp H
                obtain ⟨⟨t199, t200⟩, A150, H⟩ := H
                replace H : (if (strOfNums t199).toList = (strOfNums l0).toList then (some (x4_1, 0)) else (some (([] : List (S60)), 18))) = some (r1, r2) := H
                have A15 := Aside0.mk A150
                clear A150
                by_cases c16 : (strOfNums t199).toList = (strOfNums l0).toList
                · rw [if_pos c16] at H
                  have c16b0 : ((strOfNums t199).toList == (strOfNums l0).toList) = true := beq_iff_eq.mpr c16
                  have c16b1 : ((strOfNums t199).toList != (strOfNums l0).toList) = false := bne_eq_false_iff_eq.mpr c16
                  clear c16
                  simp only [Option.some.injEq, Prod.mk.injEq] at H
                  obtain ⟨rfl, rfl⟩ := H
                  obtain ⟨i017, hi017, _, hsz17, _⟩ := info_parts info5
                  obtain ⟨A17, hcut17, hA17, hC17⟩ := print_drop_of (P := Try.prog) (Value.int .u8) 0 23 5 .i64 Try.underlying23 hi017 hsz17 A0 c0 l0 (ji4) (of_decide_eq_true (by first | (with_reducible assumption) | assumption)) (of_decide_eq_true (by first | (with_reducible assumption) | assumption)) HC0.out
                  have HR191 := Aside0.mk (Kd.C_of_reads (h1 := fun _ => rfl) (hA17 _ (Kd.reads_of_C HR0.out)))
                  have HC191 := Aside0.mk hC17
                  clear hA17 hC17 hi017 hsz17
                  go_wp2_with (first | ((with_reducible refine gate_callee (f := 79) rfl ?_); refine goesL_ (some 21) rfl rfl Try.func79 (by kernel_rfl) rfl #[.slice A17 (l0.drop ((ji4) : Int).toNat).length (c0 - (ji4).toNat)] rfl (by (try simp only [List.map_toArray, List.map_cons, List.map_nil]); first | done | (rw [show (l0.drop ((ji4) : Int).toNat).length = (l0.length - (ji4).toNat) from List.length_drop] <;> rfl) | (simp only [hji4]; rfl) | rfl | (simp only [List.length_drop, List.length_take]; rfl)) ?_; (with_reducible refine (ashlarref05_Read.calls k1 _ _ (l0.drop ((ji4) : Int).toNat) t192 t193 false _ ?side1 ?side2 A7.out).mono ?_); (case side1 => repeat (first | exact (Kd.C_below HR191.out HB.out) | (with_reducible refine Kd.C_alloc ?_ _) | (with_reducible refine Kd.C_drewN ?_ _) | (with_reducible refine Kd.C_drew ?_))); (case side2 => exact HC191.out); rintro e w18 ⟨rfl, hb⟩; refine ⟨_, rfl, ?_⟩; have n0_ := Aside0.mk (Kd.R_below (by (with_reducible repeat (first | apply Kd.R_alloc | apply Kd.R_drewN | apply Kd.R_drew)); exact HO_4.out) hb); have n1_ := Aside0.mk (below_step (by repeat (first | (with_reducible first | exact HB.out | apply below_alloc | apply pw_below_drewN | apply below_drew1) | exact HB.out)) hb); clear HO_4; clear HB; have HO_4 := n0_; have HB := n1_; clear n0_ n1_; (try clear hb); (try clear hb2); (try clear hk); (try clear hi)) | ((with_reducible refine gate_dst (N := 6) rfl ?_); refine box_event ?hg (N := 6) ?hd (cs := #[.int .i64 0, .string (⟨#[]⟩ : ByteArray)]) (t := 60) ?hr ?_; (case hd => rfl); (case hg => rfl); (case hr => first | (go_simp; done) | (go_simp; rfl)); intro gb195 hg w19 hbox hb; have n0_ := Aside0.mk (Kd.R_below (Kd.R_elderB (by (with_reducible repeat (first | apply Kd.R_alloc | apply Kd.R_drewN | apply Kd.R_drew)); exact HO_4.out) gb195 (Nat.le_of_eq hg.symm)) hb); have n1_ := Aside0.mk (below_step (by repeat (first | (with_reducible first | exact HB.out | apply below_alloc | apply pw_below_drewN | apply below_drew1) | exact HB.out)) hb); have n2_ := Aside0.mk (hbox); have n3_ := Aside0.mk ((by rw [hg]; exact (below_size (by repeat (first | (with_reducible first | exact HB.out | apply below_alloc | apply pw_below_drewN | apply below_drew1) | exact HB.out))) : w.heap.size ≤ gb195)); have n4_ := Aside0.mk ((by rw [hg]; exact (below_size (by repeat (first | (with_reducible first | exact HB.out | apply below_alloc | apply pw_below_drewN | apply below_drew1) | exact HB.out))) : w.heap.size ≤ gb195)); clear HO_4; clear HB; have HO_4 := n0_; have HB := n1_; have BK195 := n2_; have GW195 := n3_; have GE195 := n4_; clear n0_ n1_ n2_ n3_ n4_; clear hb hbox hg; have hcz20_0 : w19.cell? ⟨gb195, 0, none⟩ = some (.int .i64 0) := (blk_cell BK195.out 0).trans rfl; have hcz20_1 : w19.cell? ⟨gb195, 1, none⟩ = some (.string (⟨#[]⟩ : ByteArray)) := (blk_cell BK195.out 1).trans rfl; have hfz20_0 := blk_frozen BK195.out 0; have hfz20_1 := blk_frozen BK195.out 1; obtain ⟨Ao21, co21, eo21⟩ := Kd.R_slice HO_4.out; subst eo21) | ((with_reducible refine gate_callee (f := 32) rfl ?_); refine goesL_ (some 33) rfl rfl Try.func32 (by kernel_rfl) rfl #[.slice Ao21 x4_1.length co21] rfl (by (try simp only [List.map_toArray, List.map_cons, List.map_nil]); first | done | rfl | (simp only [List.length_drop, List.length_take]; rfl)) ?_; (with_reducible refine (ashlarref05_EncodeDir.calls k1 _ _ x4_1 t199 t200 _ ?side1 ?side2 A15.out).mono ?_); (case side1 => refine (Kd.R_reads' (e := 60) (base := w.heap.size) (ok := fun k_ => (True ∧ k_ ≠ gb195)) (n := x4_1.length) (c := co21) ?_).2.2; exact (by (with_reducible repeat (first | apply Kd.R_alloc | apply Kd.R_drewN | apply Kd.R_drew)); exact (Kd.R_mono (Kd.R_far (p := ⟨gb195, 1, none⟩) (Kd.R_far (p := ⟨gb195, 0, none⟩) (Kd.R_mono HO_4.out (fun k_ hk => (⟨hk, hk.2⟩ : _ ∧ k_ ≠ gb195))) (fun _ hk => hk.2) (.int .i64 t192)) (fun _ hk => hk.2) (.string t193)) (fun _ h_ => h_.1)))); (case side2 => exact (Kd.R_reads' HO_4.out).2.1); rintro e w22 ⟨v201, rfl, ho0, hb⟩; refine ⟨_, rfl, ?_⟩; have n0_ := Aside0.mk (Kd.R_below (by (with_reducible repeat (first | apply Kd.R_alloc | apply Kd.R_drewN | apply Kd.R_drew)); exact (Kd.R_mono (Kd.R_far (p := ⟨gb195, 1, none⟩) (Kd.R_far (p := ⟨gb195, 0, none⟩) (Kd.R_mono HO_4.out (fun k_ hk => (⟨hk, hk.2⟩ : _ ∧ k_ ≠ gb195))) (fun _ hk => hk.2) (.int .i64 t192)) (fun _ hk => hk.2) (.string t193)) (fun _ h_ => h_.1))) hb); have n1_ := Aside0.mk (Kd.R_lower ho0 (below_size (by repeat (first | (with_reducible first | exact HB.out | apply below_alloc | apply pw_below_drewN | apply below_drew1 | refine below_set ?_ GE195.out) | exact HB.out)))); have n2_ := Aside0.mk (blk_below (g := gb195) (o := .cells #[.int .i64 t192, .string t193] 60 (0, 0)) (by (with_reducible repeat (first | refine blk_drewN ?_ _ | refine blk_drew ?_ | refine blk_alloc ?_ _)); refine blk_put (cs := #[.int .i64 t192, .string (⟨#[]⟩ : ByteArray)]) ?_ 1 _ rfl; (with_reducible repeat (first | refine blk_drewN ?_ _ | refine blk_drew ?_ | refine blk_alloc ?_ _)); refine blk_put (cs := #[.int .i64 0, .string (⟨#[]⟩ : ByteArray)]) ?_ 0 _ rfl; (with_reducible repeat (first | refine blk_drewN ?_ _ | refine blk_drew ?_ | refine blk_alloc ?_ _)); exact BK195.out) hb); have n3_ := Aside0.mk (below_step (by repeat (first | (with_reducible first | exact HB.out | apply below_alloc | apply pw_below_drewN | apply below_drew1 | refine below_set ?_ GE195.out) | exact HB.out)) hb); clear HO_4; clear BK195; clear HB; have HO_4 := n0_; have HO202 := n1_; have BK195 := n2_; have HB := n3_; clear n0_ n1_ n2_ n3_; (try clear hb); (try clear hb2); (try clear hk); (try clear hi); (try clear ho0); have hcv23 := own_string (P := Try.prog) Try.underlying23 Try.underlying5 Try.underlying9 (Kd.own_of_R HO202.out); have hcv24 := Kd.C_string (P := Try.prog) (A := A0) (c := c0) Try.underlying23 Try.underlying5 Try.underlying9 (Kd.C_below HR0.out HB.out)))
                  go_ret2
                  exact ⟨_, by first | rfl | (simp [errW_none, errW_some] <;> rfl) | (simp only [← hji4]; first | rfl | (simp [errW_none, errW_some] <;> rfl)) | (simp [*, errW_none, errW_some] <;> rfl), by (with_reducible repeat (first | apply Kd.R_alloc | apply Kd.R_drewN | apply Kd.R_drew)); exact Kd.R_mono HO_4.out (fun _ hk => trivial), by repeat (first | (with_reducible first | exact HB.out | apply below_alloc | apply pw_below_drewN | apply below_drew1 | refine below_set ?_ GE195.out) | exact HB.out)⟩
                · rw [if_neg c16] at H
                  have c16b0 : ((strOfNums t199).toList == (strOfNums l0).toList) = false := beq_eq_false_iff_ne.mpr c16
                  have c16b1 : ((strOfNums t199).toList != (strOfNums l0).toList) = true := bne_iff_ne.mpr c16
                  simp only [Option.some.injEq, Prod.mk.injEq] at H
                  obtain ⟨rfl, rfl⟩ := H
                  obtain ⟨i025, hi025, _, hsz25, _⟩ := info_parts info5
                  obtain ⟨A25, hcut25, hA25, hC25⟩ := print_drop_of (P := Try.prog) (Value.int .u8) 0 23 5 .i64 Try.underlying23 hi025 hsz25 A0 c0 l0 (ji4) (of_decide_eq_true (by first | (with_reducible assumption) | assumption)) (of_decide_eq_true (by first | (with_reducible assumption) | assumption)) HC0.out
                  have HR191 := Aside0.mk (Kd.C_of_reads (h1 := fun _ => rfl) (hA25 _ (Kd.reads_of_C HR0.out)))
                  have HC191 := Aside0.mk hC25
                  clear hA25 hC25 hi025 hsz25
                  go_wp2_with (first | ((with_reducible refine gate_callee (f := 79) rfl ?_); refine goesL_ (some 21) rfl rfl Try.func79 (by kernel_rfl) rfl #[.slice A25 (l0.drop ((ji4) : Int).toNat).length (c0 - (ji4).toNat)] rfl (by (try simp only [List.map_toArray, List.map_cons, List.map_nil]); first | done | (rw [show (l0.drop ((ji4) : Int).toNat).length = (l0.length - (ji4).toNat) from List.length_drop] <;> rfl) | (simp only [hji4]; rfl) | rfl | (simp only [List.length_drop, List.length_take]; rfl)) ?_; (with_reducible refine (ashlarref05_Read.calls k1 _ _ (l0.drop ((ji4) : Int).toNat) t192 t193 false _ ?side1 ?side2 A7.out).mono ?_); (case side1 => repeat (first | exact (Kd.C_below HR191.out HB.out) | (with_reducible refine Kd.C_alloc ?_ _) | (with_reducible refine Kd.C_drewN ?_ _) | (with_reducible refine Kd.C_drew ?_))); (case side2 => exact HC191.out); rintro e w26 ⟨rfl, hb⟩; refine ⟨_, rfl, ?_⟩; have n0_ := Aside0.mk (Kd.R_below (by (with_reducible repeat (first | apply Kd.R_alloc | apply Kd.R_drewN | apply Kd.R_drew)); exact HO_4.out) hb); have n1_ := Aside0.mk (below_step (by repeat (first | (with_reducible first | exact HB.out | apply below_alloc | apply pw_below_drewN | apply below_drew1) | exact HB.out)) hb); clear HO_4; clear HB; have HO_4 := n0_; have HB := n1_; clear n0_ n1_; (try clear hb); (try clear hb2); (try clear hk); (try clear hi)) | ((with_reducible refine gate_dst (N := 6) rfl ?_); refine box_event ?hg (N := 6) ?hd (cs := #[.int .i64 0, .string (⟨#[]⟩ : ByteArray)]) (t := 60) ?hr ?_; (case hd => rfl); (case hg => rfl); (case hr => first | (go_simp; done) | (go_simp; rfl)); intro gb195 hg w27 hbox hb; have n0_ := Aside0.mk (Kd.R_below (Kd.R_elderB (by (with_reducible repeat (first | apply Kd.R_alloc | apply Kd.R_drewN | apply Kd.R_drew)); exact HO_4.out) gb195 (Nat.le_of_eq hg.symm)) hb); have n1_ := Aside0.mk (below_step (by repeat (first | (with_reducible first | exact HB.out | apply below_alloc | apply pw_below_drewN | apply below_drew1) | exact HB.out)) hb); have n2_ := Aside0.mk (hbox); have n3_ := Aside0.mk ((by rw [hg]; exact (below_size (by repeat (first | (with_reducible first | exact HB.out | apply below_alloc | apply pw_below_drewN | apply below_drew1) | exact HB.out))) : w.heap.size ≤ gb195)); have n4_ := Aside0.mk ((by rw [hg]; exact (below_size (by repeat (first | (with_reducible first | exact HB.out | apply below_alloc | apply pw_below_drewN | apply below_drew1) | exact HB.out))) : w.heap.size ≤ gb195)); clear HO_4; clear HB; have HO_4 := n0_; have HB := n1_; have BK195 := n2_; have GW195 := n3_; have GE195 := n4_; clear n0_ n1_ n2_ n3_ n4_; clear hb hbox hg; have hcz28_0 : w27.cell? ⟨gb195, 0, none⟩ = some (.int .i64 0) := (blk_cell BK195.out 0).trans rfl; have hcz28_1 : w27.cell? ⟨gb195, 1, none⟩ = some (.string (⟨#[]⟩ : ByteArray)) := (blk_cell BK195.out 1).trans rfl; have hfz28_0 := blk_frozen BK195.out 0; have hfz28_1 := blk_frozen BK195.out 1; obtain ⟨Ao29, co29, eo29⟩ := Kd.R_slice HO_4.out; subst eo29) | ((with_reducible refine gate_callee (f := 32) rfl ?_); refine goesL_ (some 33) rfl rfl Try.func32 (by kernel_rfl) rfl #[.slice Ao29 x4_1.length co29] rfl (by (try simp only [List.map_toArray, List.map_cons, List.map_nil]); first | done | rfl | (simp only [List.length_drop, List.length_take]; rfl)) ?_; (with_reducible refine (ashlarref05_EncodeDir.calls k1 _ _ x4_1 t199 t200 _ ?side1 ?side2 A15.out).mono ?_); (case side1 => refine (Kd.R_reads' (e := 60) (base := w.heap.size) (ok := fun k_ => (True ∧ k_ ≠ gb195)) (n := x4_1.length) (c := co29) ?_).2.2; exact (by (with_reducible repeat (first | apply Kd.R_alloc | apply Kd.R_drewN | apply Kd.R_drew)); exact (Kd.R_mono (Kd.R_far (p := ⟨gb195, 1, none⟩) (Kd.R_far (p := ⟨gb195, 0, none⟩) (Kd.R_mono HO_4.out (fun k_ hk => (⟨hk, hk.2⟩ : _ ∧ k_ ≠ gb195))) (fun _ hk => hk.2) (.int .i64 t192)) (fun _ hk => hk.2) (.string t193)) (fun _ h_ => h_.1)))); (case side2 => exact (Kd.R_reads' HO_4.out).2.1); rintro e w30 ⟨v201, rfl, ho0, hb⟩; refine ⟨_, rfl, ?_⟩; have n0_ := Aside0.mk (Kd.R_below (by (with_reducible repeat (first | apply Kd.R_alloc | apply Kd.R_drewN | apply Kd.R_drew)); exact (Kd.R_mono (Kd.R_far (p := ⟨gb195, 1, none⟩) (Kd.R_far (p := ⟨gb195, 0, none⟩) (Kd.R_mono HO_4.out (fun k_ hk => (⟨hk, hk.2⟩ : _ ∧ k_ ≠ gb195))) (fun _ hk => hk.2) (.int .i64 t192)) (fun _ hk => hk.2) (.string t193)) (fun _ h_ => h_.1))) hb); have n1_ := Aside0.mk (Kd.R_lower ho0 (below_size (by repeat (first | (with_reducible first | exact HB.out | apply below_alloc | apply pw_below_drewN | apply below_drew1 | refine below_set ?_ GE195.out) | exact HB.out)))); have n2_ := Aside0.mk (blk_below (g := gb195) (o := .cells #[.int .i64 t192, .string t193] 60 (0, 0)) (by (with_reducible repeat (first | refine blk_drewN ?_ _ | refine blk_drew ?_ | refine blk_alloc ?_ _)); refine blk_put (cs := #[.int .i64 t192, .string (⟨#[]⟩ : ByteArray)]) ?_ 1 _ rfl; (with_reducible repeat (first | refine blk_drewN ?_ _ | refine blk_drew ?_ | refine blk_alloc ?_ _)); refine blk_put (cs := #[.int .i64 0, .string (⟨#[]⟩ : ByteArray)]) ?_ 0 _ rfl; (with_reducible repeat (first | refine blk_drewN ?_ _ | refine blk_drew ?_ | refine blk_alloc ?_ _)); exact BK195.out) hb); have n3_ := Aside0.mk (below_step (by repeat (first | (with_reducible first | exact HB.out | apply below_alloc | apply pw_below_drewN | apply below_drew1 | refine below_set ?_ GE195.out) | exact HB.out)) hb); clear HO_4; clear BK195; clear HB; have HO_4 := n0_; have HO202 := n1_; have BK195 := n2_; have HB := n3_; clear n0_ n1_ n2_ n3_; (try clear hb); (try clear hb2); (try clear hk); (try clear hi); (try clear ho0); have hcv31 := own_string (P := Try.prog) Try.underlying23 Try.underlying5 Try.underlying9 (Kd.own_of_R HO202.out); have hcv32 := Kd.C_string (P := Try.prog) (A := A0) (c := c0) Try.underlying23 Try.underlying5 Try.underlying9 (Kd.C_below HR0.out HB.out)))
                  go_ret2
                  exact ⟨_, by first | rfl | (simp [errW_none, errW_some] <;> rfl) | (simp only [← hji4]; first | rfl | (simp [errW_none, errW_some] <;> rfl)) | (simp [*, errW_none, errW_some] <;> rfl), by first | exact Kd.R_nil _ _ _ _ _ | exact Kd.N_nil _ _ _ _ _ | exact Kd.V_nil _ _ _ _ _ | exact Kd.Q_nil _ _ _ _ _ | exact Kd.S_nil _ _ _ _ _, by repeat (first | (with_reducible first | exact HB.out | apply below_alloc | apply pw_below_drewN | apply below_drew1 | refine below_set ?_ GE195.out) | exact HB.out)⟩
            · rw [if_neg c6] at H
              exact absurd H (by simp)
          · rw [if_neg c5] at H
            exact absurd H (by simp)
        · rw [if_neg c3] at H
          have c3b0 : decide (x13_1 < 16) = false := decide_eq_false c3
          clear c3
          replace H := Option.bind_eq_some_iff.mp H
          obtain ⟨⟨t203, t204⟩, A330, H⟩ := H
          replace H : (if (strOfNums t203).toList = (strOfNums l0).toList then (some (x4_1, 0)) else (some (([] : List (S60)), 18))) = some (r1, r2) := H
          have A33 := Aside0.mk A330
          clear A330
          by_cases c34 : (strOfNums t203).toList = (strOfNums l0).toList
          · rw [if_pos c34] at H
            have c34b0 : ((strOfNums t203).toList == (strOfNums l0).toList) = true := beq_iff_eq.mpr c34
            have c34b1 : ((strOfNums t203).toList != (strOfNums l0).toList) = false := bne_eq_false_iff_eq.mpr c34
            clear c34
            simp only [Option.some.injEq, Prod.mk.injEq] at H
            obtain ⟨rfl, rfl⟩ := H
            obtain ⟨Ao35, co35, eo35⟩ := Kd.R_slice HO_4.out
            subst eo35
            go_wp2_with (first | ((with_reducible refine gate_callee (f := 32) rfl ?_); refine goesL_ (some 33) rfl rfl Try.func32 (by kernel_rfl) rfl #[.slice Ao35 x4_1.length co35] rfl (by (try simp only [List.map_toArray, List.map_cons, List.map_nil]); first | done | rfl | (simp only [List.length_drop, List.length_take]; rfl)) ?_; (with_reducible refine (ashlarref05_EncodeDir.calls k1 _ _ x4_1 t203 t204 _ ?side1 ?side2 A33.out).mono ?_); (case side1 => repeat (first | exact (Kd.R_reads' HO_4.out).2.2 | (with_reducible refine Kd.C_alloc ?_ _) | (with_reducible refine Kd.C_drewN ?_ _) | (with_reducible refine Kd.C_drew ?_))); (case side2 => exact (Kd.R_reads' HO_4.out).2.1); rintro e w36 ⟨v205, rfl, ho0, hb⟩; refine ⟨_, rfl, ?_⟩; have n0_ := Aside0.mk (Kd.R_below (by (with_reducible repeat (first | apply Kd.R_alloc | apply Kd.R_drewN | apply Kd.R_drew)); exact HO_4.out) hb); have n1_ := Aside0.mk (Kd.R_lower ho0 (below_size (by repeat (first | (with_reducible first | exact HB.out | apply below_alloc | apply pw_below_drewN | apply below_drew1) | exact HB.out)))); have n2_ := Aside0.mk (below_step (by repeat (first | (with_reducible first | exact HB.out | apply below_alloc | apply pw_below_drewN | apply below_drew1) | exact HB.out)) hb); clear HO_4; clear HB; have HO_4 := n0_; have HO206 := n1_; have HB := n2_; clear n0_ n1_ n2_; (try clear hb); (try clear hb2); (try clear hk); (try clear hi); (try clear ho0); have hcv37 := own_string (P := Try.prog) Try.underlying23 Try.underlying5 Try.underlying9 (Kd.own_of_R HO206.out); have hcv38 := Kd.C_string (P := Try.prog) (A := A0) (c := c0) Try.underlying23 Try.underlying5 Try.underlying9 (Kd.C_below HR0.out HB.out)))
            go_ret2
            exact ⟨_, by first | rfl | (simp [errW_none, errW_some] <;> rfl) | (simp [*, errW_none, errW_some] <;> rfl), by (with_reducible repeat (first | apply Kd.R_alloc | apply Kd.R_drewN | apply Kd.R_drew)); exact HO_4.out, by repeat (first | (with_reducible first | exact HB.out | apply below_alloc | apply pw_below_drewN | apply below_drew1) | exact HB.out)⟩
          · rw [if_neg c34] at H
            have c34b0 : ((strOfNums t203).toList == (strOfNums l0).toList) = false := beq_eq_false_iff_ne.mpr c34
            have c34b1 : ((strOfNums t203).toList != (strOfNums l0).toList) = true := bne_iff_ne.mpr c34
            simp only [Option.some.injEq, Prod.mk.injEq] at H
            obtain ⟨rfl, rfl⟩ := H
            obtain ⟨Ao39, co39, eo39⟩ := Kd.R_slice HO_4.out
            subst eo39
            go_wp2_with (first | ((with_reducible refine gate_callee (f := 32) rfl ?_); refine goesL_ (some 33) rfl rfl Try.func32 (by kernel_rfl) rfl #[.slice Ao39 x4_1.length co39] rfl (by (try simp only [List.map_toArray, List.map_cons, List.map_nil]); first | done | rfl | (simp only [List.length_drop, List.length_take]; rfl)) ?_; (with_reducible refine (ashlarref05_EncodeDir.calls k1 _ _ x4_1 t203 t204 _ ?side1 ?side2 A33.out).mono ?_); (case side1 => repeat (first | exact (Kd.R_reads' HO_4.out).2.2 | (with_reducible refine Kd.C_alloc ?_ _) | (with_reducible refine Kd.C_drewN ?_ _) | (with_reducible refine Kd.C_drew ?_))); (case side2 => exact (Kd.R_reads' HO_4.out).2.1); rintro e w40 ⟨v205, rfl, ho0, hb⟩; refine ⟨_, rfl, ?_⟩; have n0_ := Aside0.mk (Kd.R_below (by (with_reducible repeat (first | apply Kd.R_alloc | apply Kd.R_drewN | apply Kd.R_drew)); exact HO_4.out) hb); have n1_ := Aside0.mk (Kd.R_lower ho0 (below_size (by repeat (first | (with_reducible first | exact HB.out | apply below_alloc | apply pw_below_drewN | apply below_drew1) | exact HB.out)))); have n2_ := Aside0.mk (below_step (by repeat (first | (with_reducible first | exact HB.out | apply below_alloc | apply pw_below_drewN | apply below_drew1) | exact HB.out)) hb); clear HO_4; clear HB; have HO_4 := n0_; have HO206 := n1_; have HB := n2_; clear n0_ n1_ n2_; (try clear hb); (try clear hb2); (try clear hk); (try clear hi); (try clear ho0); have hcv41 := own_string (P := Try.prog) Try.underlying23 Try.underlying5 Try.underlying9 (Kd.own_of_R HO206.out); have hcv42 := Kd.C_string (P := Try.prog) (A := A0) (c := c0) Try.underlying23 Try.underlying5 Try.underlying9 (Kd.C_below HR0.out HB.out)))
            go_ret2
            exact ⟨_, by first | rfl | (simp [errW_none, errW_some] <;> rfl) | (simp [*, errW_none, errW_some] <;> rfl), by first | exact Kd.R_nil _ _ _ _ _ | exact Kd.N_nil _ _ _ _ _ | exact Kd.V_nil _ _ _ _ _ | exact Kd.Q_nil _ _ _ _ _ | exact Kd.S_nil _ _ _ _ _, by repeat (first | (with_reducible first | exact HB.out | apply below_alloc | apply pw_below_drewN | apply below_drew1) | exact HB.out)⟩
  · rw [if_neg c2] at H
    have c2b0 : ((l0.length : Int) == 256) = false := beq_eq_false_iff_ne.mpr c2
    have c2b1 : ((l0.length : Int) != 256) = true := bne_iff_ne.mpr c2
    simp only [Option.some.injEq, Prod.mk.injEq] at H
    obtain ⟨rfl, rfl⟩ := H
    go_enter Try.func40, Try.ntmps40
    go_wp2
    go_ret2
    exact ⟨_, by first | rfl | (simp [errW_none, errW_some] <;> rfl) | (simp [*, errW_none, errW_some] <;> rfl), by first | exact Kd.R_nil _ _ _ _ _ | exact Kd.N_nil _ _ _ _ _ | exact Kd.V_nil _ _ _ _ _ | exact Kd.Q_nil _ _ _ _ _ | exact Kd.S_nil _ _ _ _ _, by repeat (first | (with_reducible first | exact HB.out | apply below_alloc | apply pw_below_drewN | apply below_drew1) | exact HB.out)⟩

/-! ### ashlarlaw08_DirentDecodes: function 6 -/
def ashlarlaw08_DirentDecodes.f (k : Nat) (l0 : List Int) : Option (Bool) := (ashlarlaw08_awake.f k).bind fun t207 => (if t207 = true then ((dirent_Decode.f k l0).bind fun bt208 => ((ashlarref05_DecodeDir.f k l0).bind fun bt212 => ((ashlarlaw08_Ours.f k bt208.1).bind fun t216 => ((ashlarref05_SameEntries.f k t216 bt212.1).bind fun t219 => (if t219 = true then (some (bt208.2 == bt212.2)) else (some false)))))) else (some false))
theorem ashlarlaw08_DirentDecodes.mono : ∀ a0 k, LeO (ashlarlaw08_DirentDecodes.f k a0) (ashlarlaw08_DirentDecodes.f (k + 1) a0) := by
  intro a0 k
  unfold ashlarlaw08_DirentDecodes.f
  repeat' first
      | (with_reducible exact ashlarlaw08_Ours.mono _ _)
      | (with_reducible exact ashlarlaw08_awake.mono _)
      | (with_reducible exact ashlarref05_DecodeDir.mono _ _)
      | (with_reducible exact ashlarref05_SameEntries.mono _ _ _)
      | (with_reducible exact dirent_Decode.mono _ _)
      | (with_reducible exact LeO.refl _)
      | (with_reducible exact LeO.none _)
      | (with_reducible refine LeO.ite ?_ ?_)
      | (with_reducible refine LeO.bind ?_ (fun _ => ?_))
      | exact ashlarlaw08_Ours.mono _ _
      | exact ashlarlaw08_awake.mono _
      | exact ashlarref05_DecodeDir.mono _ _
      | exact ashlarref05_SameEntries.mono _ _ _
      | exact dirent_Decode.mono _ _
      | exact LeO.none _
      | refine LeO.ite ?_ ?_
      | refine LeO.bind ?_ (fun _ => ?_)
set_option maxHeartbeats 8000000 in
set_option maxRecDepth 100000 in
theorem ashlarlaw08_DirentDecodes.calls (k : Nat) (A0 : Option Addr) (c0 : Nat) (l0 : List Int) (r : Bool) (w : World) (hr0 : Kd.C (Kd.int .u8) w A0 l0.length l0) (hc0 : l0.length ≤ c0) (h : ashlarlaw08_DirentDecodes.f k l0 = some r) :
    Calls Try.prog 6 #[.slice A0 l0.length c0] w fun e w' => e = .returned (.bool r) ∧ Below w.heap.size w w' := by
  have HR0 := Aside0.mk hr0
  have HC0 := Aside0.mk hc0
  clear hr0 hc0
  have HB := Aside0.mk (Below.refl w.heap.size w)
  have H : ((ashlarlaw08_awake.f k).bind fun t207 => (if t207 = true then ((dirent_Decode.f k l0).bind fun bt208 => ((ashlarref05_DecodeDir.f k l0).bind fun bt212 => ((ashlarlaw08_Ours.f k bt208.1).bind fun t216 => ((ashlarref05_SameEntries.f k t216 bt212.1).bind fun t219 => (if t219 = true then (some (bt208.2 == bt212.2)) else (some false)))))) else (some false))) = some r := h
  clear h
  replace H := Option.bind_eq_some_iff.mp H
  obtain ⟨t207, A20, H⟩ := H
  replace H : (if t207 = true then ((dirent_Decode.f k l0).bind fun bt208 => ((ashlarref05_DecodeDir.f k l0).bind fun bt212 => ((ashlarlaw08_Ours.f k bt208.1).bind fun t216 => ((ashlarref05_SameEntries.f k t216 bt212.1).bind fun t219 => (if t219 = true then (some (bt208.2 == bt212.2)) else (some false)))))) else (some false)) = some r := H
  have A2 := Aside0.mk A20
  clear A20
  by_cases c3 : t207 = true
  · subst c3
    have H1 : ((dirent_Decode.f k l0).bind fun bt208 => ((ashlarref05_DecodeDir.f k l0).bind fun bt212 => ((ashlarlaw08_Ours.f k bt208.1).bind fun t216 => ((ashlarref05_SameEntries.f k t216 bt212.1).bind fun t219 => (if t219 = true then (some (bt208.2 == bt212.2)) else (some false)))))) = some r := by rw [if_pos rfl] at H; exact H
    clear H
    have H := H1
    clear H1
    replace H := Option.bind_eq_some_iff.mp H
    obtain ⟨⟨t208, t209⟩, A40, H⟩ := H
    replace H : ((ashlarref05_DecodeDir.f k l0).bind fun bt212 => ((ashlarlaw08_Ours.f k t208).bind fun t216 => ((ashlarref05_SameEntries.f k t216 bt212.1).bind fun t219 => (if t219 = true then (some (t209 == bt212.2)) else (some false))))) = some r := H
    have A4 := Aside0.mk A40
    clear A40
    replace H := Option.bind_eq_some_iff.mp H
    obtain ⟨⟨t212, t213⟩, A50, H⟩ := H
    replace H : ((ashlarlaw08_Ours.f k t208).bind fun t216 => ((ashlarref05_SameEntries.f k t216 t212).bind fun t219 => (if t219 = true then (some (t209 == t213)) else (some false)))) = some r := H
    have A5 := Aside0.mk A50
    clear A50
    replace H := Option.bind_eq_some_iff.mp H
    obtain ⟨t216, A60, H⟩ := H
    replace H : ((ashlarref05_SameEntries.f k t216 t212).bind fun t219 => (if t219 = true then (some (t209 == t213)) else (some false))) = some r := H
    have A6 := Aside0.mk A60
    clear A60
    replace H := Option.bind_eq_some_iff.mp H
    obtain ⟨t219, A70, H⟩ := H
    replace H : (if t219 = true then (some (t209 == t213)) else (some false)) = some r := H
    have A7 := Aside0.mk A70
    clear A70
    by_cases c8 : t219 = true
    · subst c8
      have H1 : (some (t209 == t213)) = some r := by rw [if_pos rfl] at H; exact H
      clear H
      have H := H1
      clear H1
      obtain rfl := Option.some.inj H
      go_enter Try.func6, Try.ntmps6
      go_wp2_with (first | ((with_reducible refine gate_callee (f := 29) rfl ?_); refine goesL_ (some 7) rfl rfl Try.func29 (by kernel_rfl) rfl #[] rfl (by (try simp only [List.map_toArray, List.map_cons, List.map_nil]); first | done | rfl | (simp only [List.length_drop, List.length_take]; rfl)) ?_; (with_reducible refine (ashlarlaw08_awake.calls k  true _ A2.out).mono ?_); rintro e w9 ⟨rfl, hb⟩; refine ⟨_, rfl, ?_⟩; have n0_ := Aside0.mk (below_step (by repeat (first | (with_reducible first | exact HB.out | apply below_alloc | apply pw_below_drewN | apply below_drew1) | exact HB.out)) hb); clear HB; have HB := n0_; clear n0_; (try clear hb); (try clear hb2); (try clear hk); (try clear hi)) | ((with_reducible refine gate_callee (f := 37) rfl ?_); refine goesL_ (some 11) rfl rfl Try.func37 (by kernel_rfl) rfl #[.slice A0 l0.length c0] rfl (by (try simp only [List.map_toArray, List.map_cons, List.map_nil]); first | done | rfl | (simp only [List.length_drop, List.length_take]; rfl)) ?_; (with_reducible refine (dirent_Decode.calls k _ _ l0 t208 t209 _ ?side1 ?side2 A4.out).mono ?_); (case side1 => repeat (first | exact (Kd.C_below HR0.out HB.out) | (with_reducible refine Kd.C_alloc ?_ _) | (with_reducible refine Kd.C_drewN ?_ _) | (with_reducible refine Kd.C_drew ?_))); (case side2 => exact HC0.out); rintro e w10 ⟨v210, rfl, ho0, hb⟩; refine ⟨_, rfl, ?_⟩; have n0_ := Aside0.mk (Kd.R_lower ho0 (below_size (by repeat (first | (with_reducible first | exact HB.out | apply below_alloc | apply pw_below_drewN | apply below_drew1) | exact HB.out)))); have n1_ := Aside0.mk (below_step (by repeat (first | (with_reducible first | exact HB.out | apply below_alloc | apply pw_below_drewN | apply below_drew1) | exact HB.out)) hb); clear HB; have HO211 := n0_; have HB := n1_; clear n0_ n1_; (try clear hb); (try clear hb2); (try clear hk); (try clear hi); (try clear ho0)) | ((with_reducible refine gate_callee (f := 40) rfl ?_); refine goesL_ (some 16) rfl rfl Try.func40 (by kernel_rfl) rfl #[.slice A0 l0.length c0] rfl (by (try simp only [List.map_toArray, List.map_cons, List.map_nil]); first | done | rfl | (simp only [List.length_drop, List.length_take]; rfl)) ?_; (with_reducible refine (ashlarref05_DecodeDir.calls k _ _ l0 t212 t213 _ ?side1 ?side2 A5.out).mono ?_); (case side1 => repeat (first | exact (Kd.C_below HR0.out HB.out) | (with_reducible refine Kd.C_alloc ?_ _) | (with_reducible refine Kd.C_drewN ?_ _) | (with_reducible refine Kd.C_drew ?_))); (case side2 => exact HC0.out); rintro e w11 ⟨v214, rfl, ho0, hb⟩; refine ⟨_, rfl, ?_⟩; have n0_ := Aside0.mk (Kd.R_below (by (with_reducible repeat (first | apply Kd.R_alloc | apply Kd.R_drewN | apply Kd.R_drew)); exact HO211.out) hb); have n1_ := Aside0.mk (Kd.R_lower ho0 (below_size (by repeat (first | (with_reducible first | exact HB.out | apply below_alloc | apply pw_below_drewN | apply below_drew1) | exact HB.out)))); have n2_ := Aside0.mk (below_step (by repeat (first | (with_reducible first | exact HB.out | apply below_alloc | apply pw_below_drewN | apply below_drew1) | exact HB.out)) hb); clear HO211; clear HB; have HO211 := n0_; have HO215 := n1_; have HB := n2_; clear n0_ n1_ n2_; (try clear hb); (try clear hb2); (try clear hk); (try clear hi); (try clear ho0); obtain ⟨Ao12, co12, eo12⟩ := Kd.R_slice HO211.out; subst eo12) | ((with_reducible refine gate_callee (f := 39) rfl ?_); refine goesL_ (some 20) rfl rfl Try.func39 (by kernel_rfl) rfl #[.slice Ao12 t208.length co12] rfl (by (try simp only [List.map_toArray, List.map_cons, List.map_nil]); first | done | rfl | (simp only [List.length_drop, List.length_take]; rfl)) ?_; (with_reducible refine (ashlarlaw08_Ours.calls k _ _ t208 t216 _ ?side1 ?side2 A6.out).mono ?_); (case side1 => repeat (first | exact (Kd.R_reads' HO211.out).2.2 | (with_reducible refine Kd.C_alloc ?_ _) | (with_reducible refine Kd.C_drewN ?_ _) | (with_reducible refine Kd.C_drew ?_))); (case side2 => exact (Kd.R_reads' HO211.out).2.1); rintro e w13 ⟨v217, rfl, ho0, hb⟩; refine ⟨_, rfl, ?_⟩; have n0_ := Aside0.mk (Kd.R_below (by (with_reducible repeat (first | apply Kd.R_alloc | apply Kd.R_drewN | apply Kd.R_drew)); exact HO211.out) hb); have n1_ := Aside0.mk (Kd.R_elder' (by (with_reducible repeat (first | apply Kd.R_alloc | apply Kd.R_drewN | apply Kd.R_drew)); exact HO215.out) (Kd.R_base ho0) hb); have n2_ := Aside0.mk (Kd.R_lower (Kd.R_new' ho0 (Kd.R_lt (by (with_reducible repeat (first | apply Kd.R_alloc | apply Kd.R_drewN | apply Kd.R_drew)); exact HO215.out))) (below_size (by repeat (first | (with_reducible first | exact HB.out | apply below_alloc | apply pw_below_drewN | apply below_drew1) | exact HB.out)))); have n3_ := Aside0.mk (below_step (by repeat (first | (with_reducible first | exact HB.out | apply below_alloc | apply pw_below_drewN | apply below_drew1) | exact HB.out)) hb); clear HO211; clear HO215; clear HB; have HO211 := n0_; have HO215 := n1_; have HO218 := n2_; have HB := n3_; clear n0_ n1_ n2_ n3_; (try clear hb); (try clear hb2); (try clear hk); (try clear hi); (try clear ho0); obtain ⟨Ao14, co14, eo14⟩ := Kd.R_slice HO218.out; subst eo14; obtain ⟨Ao15, co15, eo15⟩ := Kd.R_slice HO215.out; subst eo15) | ((with_reducible refine gate_callee (f := 38) rfl ?_); refine goesL_ (some 22) rfl rfl Try.func38 (by kernel_rfl) rfl #[.slice Ao14 t216.length co14, .slice Ao15 t212.length co15] rfl (by (try simp only [List.map_toArray, List.map_cons, List.map_nil]); first | done | rfl | (simp only [List.length_drop, List.length_take]; rfl)) ?_; (with_reducible refine (ashlarref05_SameEntries.calls k _ _ t216 _ _ t212 true _ ?side1 ?side2 ?side3 ?side4 A7.out).mono ?_); (case side1 => repeat (first | exact (Kd.R_reads' HO218.out).2.2 | (with_reducible refine Kd.C_alloc ?_ _) | (with_reducible refine Kd.C_drewN ?_ _) | (with_reducible refine Kd.C_drew ?_))); (case side2 => exact (Kd.R_reads' HO218.out).2.1); (case side3 => repeat (first | exact (Kd.R_reads' HO215.out).2.2 | (with_reducible refine Kd.C_alloc ?_ _) | (with_reducible refine Kd.C_drewN ?_ _) | (with_reducible refine Kd.C_drew ?_))); (case side4 => exact (Kd.R_reads' HO215.out).2.1); rintro e w' ⟨rfl, ⟨nd, rfl⟩⟩; refine ⟨_, rfl, ?_⟩))
      go_ret
      exact ⟨by first | rfl | (simp [errW_none, errW_some] <;> rfl) | (simp [*, errW_none, errW_some] <;> rfl), by repeat (first | (with_reducible first | exact HB.out | apply below_alloc | apply pw_below_drewN | apply below_drew1) | exact HB.out)⟩
    · replace c8 := Bool.eq_false_iff.mpr c8
      subst c8
      have H1 : (some false) = some r := by rw [if_neg (show ¬ (false = true) by decide)] at H; exact H
      clear H
      have H := H1
      clear H1
      obtain rfl := Option.some.inj H
      go_enter Try.func6, Try.ntmps6
      go_wp2_with (first | ((with_reducible refine gate_callee (f := 29) rfl ?_); refine goesL_ (some 7) rfl rfl Try.func29 (by kernel_rfl) rfl #[] rfl (by (try simp only [List.map_toArray, List.map_cons, List.map_nil]); first | done | rfl | (simp only [List.length_drop, List.length_take]; rfl)) ?_; (with_reducible refine (ashlarlaw08_awake.calls k  true _ A2.out).mono ?_); rintro e w16 ⟨rfl, hb⟩; refine ⟨_, rfl, ?_⟩; have n0_ := Aside0.mk (below_step (by repeat (first | (with_reducible first | exact HB.out | apply below_alloc | apply pw_below_drewN | apply below_drew1) | exact HB.out)) hb); clear HB; have HB := n0_; clear n0_; (try clear hb); (try clear hb2); (try clear hk); (try clear hi)) | ((with_reducible refine gate_callee (f := 37) rfl ?_); refine goesL_ (some 11) rfl rfl Try.func37 (by kernel_rfl) rfl #[.slice A0 l0.length c0] rfl (by (try simp only [List.map_toArray, List.map_cons, List.map_nil]); first | done | rfl | (simp only [List.length_drop, List.length_take]; rfl)) ?_; (with_reducible refine (dirent_Decode.calls k _ _ l0 t208 t209 _ ?side1 ?side2 A4.out).mono ?_); (case side1 => repeat (first | exact (Kd.C_below HR0.out HB.out) | (with_reducible refine Kd.C_alloc ?_ _) | (with_reducible refine Kd.C_drewN ?_ _) | (with_reducible refine Kd.C_drew ?_))); (case side2 => exact HC0.out); rintro e w17 ⟨v210, rfl, ho0, hb⟩; refine ⟨_, rfl, ?_⟩; have n0_ := Aside0.mk (Kd.R_lower ho0 (below_size (by repeat (first | (with_reducible first | exact HB.out | apply below_alloc | apply pw_below_drewN | apply below_drew1) | exact HB.out)))); have n1_ := Aside0.mk (below_step (by repeat (first | (with_reducible first | exact HB.out | apply below_alloc | apply pw_below_drewN | apply below_drew1) | exact HB.out)) hb); clear HB; have HO211 := n0_; have HB := n1_; clear n0_ n1_; (try clear hb); (try clear hb2); (try clear hk); (try clear hi); (try clear ho0)) | ((with_reducible refine gate_callee (f := 40) rfl ?_); refine goesL_ (some 16) rfl rfl Try.func40 (by kernel_rfl) rfl #[.slice A0 l0.length c0] rfl (by (try simp only [List.map_toArray, List.map_cons, List.map_nil]); first | done | rfl | (simp only [List.length_drop, List.length_take]; rfl)) ?_; (with_reducible refine (ashlarref05_DecodeDir.calls k _ _ l0 t212 t213 _ ?side1 ?side2 A5.out).mono ?_); (case side1 => repeat (first | exact (Kd.C_below HR0.out HB.out) | (with_reducible refine Kd.C_alloc ?_ _) | (with_reducible refine Kd.C_drewN ?_ _) | (with_reducible refine Kd.C_drew ?_))); (case side2 => exact HC0.out); rintro e w18 ⟨v214, rfl, ho0, hb⟩; refine ⟨_, rfl, ?_⟩; have n0_ := Aside0.mk (Kd.R_below (by (with_reducible repeat (first | apply Kd.R_alloc | apply Kd.R_drewN | apply Kd.R_drew)); exact HO211.out) hb); have n1_ := Aside0.mk (Kd.R_lower ho0 (below_size (by repeat (first | (with_reducible first | exact HB.out | apply below_alloc | apply pw_below_drewN | apply below_drew1) | exact HB.out)))); have n2_ := Aside0.mk (below_step (by repeat (first | (with_reducible first | exact HB.out | apply below_alloc | apply pw_below_drewN | apply below_drew1) | exact HB.out)) hb); clear HO211; clear HB; have HO211 := n0_; have HO215 := n1_; have HB := n2_; clear n0_ n1_ n2_; (try clear hb); (try clear hb2); (try clear hk); (try clear hi); (try clear ho0); obtain ⟨Ao19, co19, eo19⟩ := Kd.R_slice HO211.out; subst eo19) | ((with_reducible refine gate_callee (f := 39) rfl ?_); refine goesL_ (some 20) rfl rfl Try.func39 (by kernel_rfl) rfl #[.slice Ao19 t208.length co19] rfl (by (try simp only [List.map_toArray, List.map_cons, List.map_nil]); first | done | rfl | (simp only [List.length_drop, List.length_take]; rfl)) ?_; (with_reducible refine (ashlarlaw08_Ours.calls k _ _ t208 t216 _ ?side1 ?side2 A6.out).mono ?_); (case side1 => repeat (first | exact (Kd.R_reads' HO211.out).2.2 | (with_reducible refine Kd.C_alloc ?_ _) | (with_reducible refine Kd.C_drewN ?_ _) | (with_reducible refine Kd.C_drew ?_))); (case side2 => exact (Kd.R_reads' HO211.out).2.1); rintro e w20 ⟨v217, rfl, ho0, hb⟩; refine ⟨_, rfl, ?_⟩; have n0_ := Aside0.mk (Kd.R_below (by (with_reducible repeat (first | apply Kd.R_alloc | apply Kd.R_drewN | apply Kd.R_drew)); exact HO211.out) hb); have n1_ := Aside0.mk (Kd.R_elder' (by (with_reducible repeat (first | apply Kd.R_alloc | apply Kd.R_drewN | apply Kd.R_drew)); exact HO215.out) (Kd.R_base ho0) hb); have n2_ := Aside0.mk (Kd.R_lower (Kd.R_new' ho0 (Kd.R_lt (by (with_reducible repeat (first | apply Kd.R_alloc | apply Kd.R_drewN | apply Kd.R_drew)); exact HO215.out))) (below_size (by repeat (first | (with_reducible first | exact HB.out | apply below_alloc | apply pw_below_drewN | apply below_drew1) | exact HB.out)))); have n3_ := Aside0.mk (below_step (by repeat (first | (with_reducible first | exact HB.out | apply below_alloc | apply pw_below_drewN | apply below_drew1) | exact HB.out)) hb); clear HO211; clear HO215; clear HB; have HO211 := n0_; have HO215 := n1_; have HO218 := n2_; have HB := n3_; clear n0_ n1_ n2_ n3_; (try clear hb); (try clear hb2); (try clear hk); (try clear hi); (try clear ho0); obtain ⟨Ao21, co21, eo21⟩ := Kd.R_slice HO218.out; subst eo21; obtain ⟨Ao22, co22, eo22⟩ := Kd.R_slice HO215.out; subst eo22) | ((with_reducible refine gate_callee (f := 38) rfl ?_); refine goesL_ (some 22) rfl rfl Try.func38 (by kernel_rfl) rfl #[.slice Ao21 t216.length co21, .slice Ao22 t212.length co22] rfl (by (try simp only [List.map_toArray, List.map_cons, List.map_nil]); first | done | rfl | (simp only [List.length_drop, List.length_take]; rfl)) ?_; (with_reducible refine (ashlarref05_SameEntries.calls k _ _ t216 _ _ t212 false _ ?side1 ?side2 ?side3 ?side4 A7.out).mono ?_); (case side1 => repeat (first | exact (Kd.R_reads' HO218.out).2.2 | (with_reducible refine Kd.C_alloc ?_ _) | (with_reducible refine Kd.C_drewN ?_ _) | (with_reducible refine Kd.C_drew ?_))); (case side2 => exact (Kd.R_reads' HO218.out).2.1); (case side3 => repeat (first | exact (Kd.R_reads' HO215.out).2.2 | (with_reducible refine Kd.C_alloc ?_ _) | (with_reducible refine Kd.C_drewN ?_ _) | (with_reducible refine Kd.C_drew ?_))); (case side4 => exact (Kd.R_reads' HO215.out).2.1); rintro e w' ⟨rfl, ⟨nd, rfl⟩⟩; refine ⟨_, rfl, ?_⟩))
      go_ret
      exact ⟨by first | rfl | (simp [errW_none, errW_some] <;> rfl) | (simp [*, errW_none, errW_some] <;> rfl), by repeat (first | (with_reducible first | exact HB.out | apply below_alloc | apply pw_below_drewN | apply below_drew1) | exact HB.out)⟩
  · replace c3 := Bool.eq_false_iff.mpr c3
    subst c3
    have H1 : (some false) = some r := by rw [if_neg (show ¬ (false = true) by decide)] at H; exact H
    clear H
    have H := H1
    clear H1
    obtain rfl := Option.some.inj H
    go_enter Try.func6, Try.ntmps6
    go_wp2_with (first | ((with_reducible refine gate_callee (f := 29) rfl ?_); refine goesL_ (some 7) rfl rfl Try.func29 (by kernel_rfl) rfl #[] rfl (by (try simp only [List.map_toArray, List.map_cons, List.map_nil]); first | done | rfl | (simp only [List.length_drop, List.length_take]; rfl)) ?_; (with_reducible refine (ashlarlaw08_awake.calls k  false _ A2.out).mono ?_); rintro e w23 ⟨rfl, hb⟩; refine ⟨_, rfl, ?_⟩; have n0_ := Aside0.mk (below_step (by repeat (first | (with_reducible first | exact HB.out | apply below_alloc | apply pw_below_drewN | apply below_drew1) | exact HB.out)) hb); clear HB; have HB := n0_; clear n0_; (try clear hb); (try clear hb2); (try clear hk); (try clear hi)))
    go_ret
    exact ⟨by first | rfl | (simp [errW_none, errW_some] <;> rfl) | (simp [*, errW_none, errW_some] <;> rfl), by repeat (first | (with_reducible first | exact HB.out | apply below_alloc | apply pw_below_drewN | apply below_drew1) | exact HB.out)⟩

/-- THE ONE PURE STATEMENT of ashlarlaw08_DirentDecodes: yours. -/
def ashlarlaw08_DirentDecodes.Pure : Prop := ∀ (l0 : List Int), l0.length ≤ maxLen → l0.length * 1 ≤ 140737488351232 → (∀ x ∈ l0, (Lit.int .u8 x).wf = true) → ∃ k, ashlarlaw08_DirentDecodes.f k l0 = some true
theorem ashlarlaw08_DirentDecodes.walk (P : ashlarlaw08_DirentDecodes.Pure) (a0 : Option Addr) (len0 cap0 : Nat) (z0 : List Int) (w : World) (w0 : (a0 = none ∧ len0 = 0 ∧ cap0 = 0 ∧ z0 = []) ∨ ∃ x, a0 = some x ∧ len0 ≤ cap0 ∧ cap0 ≤ maxLen ∧ z0.length = cap0 ∧ (∀ i, i < z0.length → w.cell? (x.add i) = some (.int .u8 (z0.getD i 0))) ∧ ∀ n ∈ z0, (Lit.int .u8 n).wf = true) (y0 : len0 * 1 ≤ 140737488351232) :
    Calls Try.prog 6 #[.slice a0 len0 cap0] w fun e w' => e = .returned (.bool true) ∧ Below w.heap.size w w' := by
  obtain ⟨l0, rfl, hr0, hm0, hw0, hc0⟩ := ReadsInt.ofRowC w0
  obtain ⟨k, h⟩ := P l0 hm0 y0 hw0
  refine (ashlarlaw08_DirentDecodes.calls k _ _ l0 true w (Kd.C_of_reads (d := (0 : Int)) (h1 := fun _ => rfl) hr0) hc0 h).mono ?_
  rintro e w' ⟨rfl, hd⟩
  exact ⟨rfl, hd⟩

end Go.Proofs.Ytignifnkjlldpaa.PDirentDecodes
