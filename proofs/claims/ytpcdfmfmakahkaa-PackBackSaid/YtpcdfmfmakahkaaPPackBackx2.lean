/- Written by a program of this session (xprint.py) out of the translation. What is proved, in the end: the Go law PackBack answers true at every input, and its arguments read behind the call as before; no condition. -/
import Derived.Test.YtpcdfmfmakahkaaPPackBackx0
import Derived.Test.YtpcdfmfmakahkaaPPackBackx1
namespace Go.Proofs.Ytpcdfmfmakahkaa.PPackBack
open Go.RowKit Go.Proofs.YtpcdfmfmakahkaaW.PrintWords Go.Proofs.YtpcdfmfmakahkaaW.PrintLast Go.Proofs.YtpcdfmfmakahkaaW.PrintMore
attribute [local go_sem] max2_int min2_int max_two min_two max_three min_three max_four min_four   -- for this text's walks alone
set_option linter.unusedVariables false
set_option linter.unusedSimpArgs false

/-! ### pack_Open: function 36 -/
def pack_Open.f (k : Nat) (l0 : List Int) : Option (List Int × Bool) := if (l0.length : Int) = 256 then ((pack_Get.f k l0 252 4).bind fun bt136 => (if 252 ≤ (l0.length : Int) then ((pack_Sum.f k (l0.take 252)).bind fun t139 => (if ((bt136.1) % 4294967296) = t139 then ((slices_Clone_byte_byte.f (l0.take 252)).bind fun t141 => (some (t141, true))) else (some (([] : List Int), false)))) else (none))) else (some (([] : List Int), false))
theorem pack_Open.mono : ∀ a0 k, LeO (pack_Open.f k a0) (pack_Open.f (k + 1) a0) := by
  intro a0 k
  unfold pack_Open.f
  repeat' first
      | (with_reducible exact pack_Get.mono _ _ _ _)
      | (with_reducible exact pack_Sum.mono _ _)
      | (with_reducible exact LeO.refl _)
      | (with_reducible exact LeO.none _)
      | (with_reducible refine LeO.ite ?_ ?_)
      | (with_reducible refine LeO.bind ?_ (fun _ => ?_))
      | exact pack_Get.mono _ _ _ _
      | exact pack_Sum.mono _ _
      | exact LeO.none _
      | refine LeO.ite ?_ ?_
      | refine LeO.bind ?_ (fun _ => ?_)
set_option maxHeartbeats 8000000 in
set_option maxRecDepth 100000 in
theorem pack_Open.calls (k : Nat) (A0 : Option Addr) (c0 : Nat) (l0 : List Int) (r1 : List Int) (r2 : Bool) (w : World) (hr0 : Kd.C (Kd.int .u8) w A0 l0.length l0) (hc0 : l0.length ≤ c0) (h : pack_Open.f k l0 = some (r1, r2)) :
    Calls Try.prog 36 #[.slice A0 l0.length c0] w fun e w' => ∃ v0_ : Value, e = .returned (.tuple #[v0_, .bool r2]) ∧ Kd.R (Kd.int .u8) 5 w' w.heap.size (fun _ => True) v0_ r1 ∧ Below w.heap.size w w' := by
  have HR0 := Aside0.mk hr0
  have HC0 := Aside0.mk hc0
  clear hr0 hc0
  have HB := Aside0.mk (Below.refl w.heap.size w)
  have H : (if (l0.length : Int) = 256 then ((pack_Get.f k l0 252 4).bind fun bt136 => (if 252 ≤ (l0.length : Int) then ((pack_Sum.f k (l0.take 252)).bind fun t139 => (if ((bt136.1) % 4294967296) = t139 then ((slices_Clone_byte_byte.f (l0.take 252)).bind fun t141 => (some (t141, true))) else (some (([] : List Int), false)))) else (none))) else (some (([] : List Int), false))) = some (r1, r2) := h
  clear h
  by_cases c2 : (l0.length : Int) = 256
  · rw [if_pos c2] at H
    have c2b0 : ((l0.length : Int) == 256) = true := beq_iff_eq.mpr c2
    have c2b1 : ((l0.length : Int) != 256) = false := bne_eq_false_iff_eq.mpr c2
    clear c2
    replace H := Option.bind_eq_some_iff.mp H
    obtain ⟨⟨t136, t137⟩, A30, H⟩ := H
    replace H : (if 252 ≤ (l0.length : Int) then ((pack_Sum.f k (l0.take 252)).bind fun t139 => (if ((t136) % 4294967296) = t139 then ((slices_Clone_byte_byte.f (l0.take 252)).bind fun t141 => (some (t141, true))) else (some (([] : List Int), false)))) else (none)) = some (r1, r2) := H
    have A3 := Aside0.mk A30
    clear A30
    by_cases c4 : 252 ≤ (l0.length : Int)
    · rw [if_pos c4] at H
      have c4b0 := eq_true c4
      have c4b1 : decide (252 ≤ (l0.length : Int)) = true := decide_eq_true c4
      clear c4
      replace H := Option.bind_eq_some_iff.mp H
      obtain ⟨t139, A50, H⟩ := H
      replace H : (if ((t136) % 4294967296) = t139 then ((slices_Clone_byte_byte.f (l0.take 252)).bind fun t141 => (some (t141, true))) else (some (([] : List Int), false))) = some (r1, r2) := H
      have A5 := Aside0.mk A50
      clear A50
      by_cases c6 : ((t136) % 4294967296) = t139
      · rw [if_pos c6] at H
        have c6b0 : (((t136) % 4294967296) == t139) = true := beq_iff_eq.mpr c6
        have c6b1 : (((t136) % 4294967296) != t139) = false := bne_eq_false_iff_eq.mpr c6
        clear c6
        have c7b0 := eq_true (of_decide_eq_true (by first | (with_reducible assumption) | assumption) : 252 ≤ (l0.length : Int))
        replace H := Option.bind_eq_some_iff.mp H
        obtain ⟨t141, A80, H⟩ := H
        replace H : (some (t141, true)) = some (r1, r2) := H
        have A8 := Aside0.mk A80
        clear A80
        simp only [Option.some.injEq, Prod.mk.injEq] at H
        obtain ⟨rfl, rfl⟩ := H
        go_enter Try.func36, Try.ntmps36
        go_wp2_with (first | ((with_reducible refine gate_callee (f := 31) rfl ?_); refine goesL_ (some 11) rfl rfl Try.func31 (by kernel_rfl) rfl #[.slice A0 l0.length c0, .int .i64 252, .int .i64 4] rfl (by (try simp only [List.map_toArray, List.map_cons, List.map_nil]); first | done | rfl | (simp only [List.length_drop, List.length_take]; rfl)) ?_; (with_reducible refine (pack_Get.calls k _ _ l0 252 4 t136 t137 _ ?side1 ?side2 A3.out).mono ?_); (case side1 => repeat (first | exact HR0.out | (with_reducible refine Kd.C_alloc ?_ _) | (with_reducible refine Kd.C_drewN ?_ _) | (with_reducible refine Kd.C_drew ?_))); (case side2 => exact HC0.out); rintro e w' ⟨rfl, ⟨nd, rfl⟩⟩; refine ⟨_, rfl, ?_⟩; obtain ⟨i09, hi09, _, hsz9, _⟩ := info_parts info5; obtain ⟨hcut9, hA9, hC9⟩ := print_take_of (P := Try.prog) (Value.int .u8) 0 28 5 .i64 Try.underlying28 hi09 hsz9 A0 c0 l0 252 (by omega) (of_decide_eq_true (by first | (with_reducible assumption) | assumption)) HC0.out; have HR138 := Aside0.mk (Kd.C_of_reads (h1 := fun _ => rfl) (hA9 _ (Kd.reads_of_C HR0.out))); have HC138 := Aside0.mk hC9; clear hA9 hC9 hi09 hsz9) | ((with_reducible refine gate_callee (f := 38) rfl ?_); refine goesL_ (some 18) rfl rfl Try.func38 (by kernel_rfl) rfl #[.slice A0 (l0.take 252).length c0] rfl (by (try simp only [List.map_toArray, List.map_cons, List.map_nil]); first | done | (rw [show (l0.take 252).length = 252 from (by rw [List.length_take]; have h_ : (252 : Int) ≤ (l0.length : Int) := of_decide_eq_true (by first | (with_reducible assumption) | assumption); omega)] <;> rfl) | rfl | (simp only [List.length_drop, List.length_take]; rfl)) ?_; (with_reducible refine (pack_Sum.calls k _ _ (l0.take 252) t139 _ ?side1 ?side2 A5.out).mono ?_); (case side1 => repeat (first | exact HR138.out | (with_reducible refine Kd.C_alloc ?_ _) | (with_reducible refine Kd.C_drewN ?_ _) | (with_reducible refine Kd.C_drew ?_))); (case side2 => exact HC138.out); rintro e w' ⟨rfl, ⟨nd, rfl⟩⟩; refine ⟨_, rfl, ?_⟩; obtain ⟨i010, hi010, _, hsz10, _⟩ := info_parts info5; obtain ⟨hcut10, hA10, hC10⟩ := print_take_of (P := Try.prog) (Value.int .u8) 0 28 5 .i64 Try.underlying28 hi010 hsz10 A0 c0 l0 252 (by omega) (of_decide_eq_true (by first | (with_reducible assumption) | assumption)) HC0.out; have HR140 := Aside0.mk (Kd.C_of_reads (h1 := fun _ => rfl) (hA10 _ (Kd.reads_of_C HR0.out))); have HC140 := Aside0.mk hC10; clear hA10 hC10 hi010 hsz10) | ((with_reducible refine gate_callee (f := 56) rfl ?_); refine goesL_ (some 22) rfl rfl Try.func56 (by kernel_rfl) rfl #[.slice A0 (l0.take 252).length c0] rfl (by (try simp only [List.map_toArray, List.map_cons, List.map_nil]); first | done | (rw [show (l0.take 252).length = 252 from (by rw [List.length_take]; have h_ : (252 : Int) ≤ (l0.length : Int) := of_decide_eq_true (by first | (with_reducible assumption) | assumption); omega)] <;> rfl) | rfl | (simp only [List.length_drop, List.length_take]; rfl)) ?_; (with_reducible refine (slices_Clone_byte_byte.calls _ _ (l0.take 252) t141 _ ?side1 ?side2 A8.out).mono ?_); (case side1 => repeat (first | exact HR140.out | (with_reducible refine Kd.C_alloc ?_ _) | (with_reducible refine Kd.C_drewN ?_ _) | (with_reducible refine Kd.C_drew ?_))); (case side2 => exact HC140.out); rintro e w11 ⟨v142, rfl, ho0, hb⟩; refine ⟨_, rfl, ?_⟩; have n0_ := Aside0.mk (Kd.R_lower ho0 (below_size (by repeat (first | (with_reducible first | exact HB.out | apply below_alloc | apply pw_below_drewN | apply below_drew1) | exact HB.out)))); have n1_ := Aside0.mk (below_step (by repeat (first | (with_reducible first | exact HB.out | apply below_alloc | apply pw_below_drewN | apply below_drew1) | exact HB.out)) hb); clear HB; have HO143 := n0_; have HB := n1_; clear n0_ n1_; (try clear hb); (try clear hb2); (try clear hk); (try clear hi); (try clear ho0)))
        go_ret2
        exact ⟨_, by first | rfl | (simp [errW_none, errW_some] <;> rfl) | (simp [*, errW_none, errW_some] <;> rfl), by (with_reducible repeat (first | apply Kd.R_alloc | apply Kd.R_drewN | apply Kd.R_drew)); exact HO143.out, by repeat (first | (with_reducible first | exact HB.out | apply below_alloc | apply pw_below_drewN | apply below_drew1) | exact HB.out)⟩
      · rw [if_neg c6] at H
        have c6b0 : (((t136) % 4294967296) == t139) = false := beq_eq_false_iff_ne.mpr c6
        have c6b1 : (((t136) % 4294967296) != t139) = true := bne_iff_ne.mpr c6
        simp only [Option.some.injEq, Prod.mk.injEq] at H
        obtain ⟨rfl, rfl⟩ := H
        go_enter Try.func36, Try.ntmps36
        go_wp2_with (first | ((with_reducible refine gate_callee (f := 31) rfl ?_); refine goesL_ (some 11) rfl rfl Try.func31 (by kernel_rfl) rfl #[.slice A0 l0.length c0, .int .i64 252, .int .i64 4] rfl (by (try simp only [List.map_toArray, List.map_cons, List.map_nil]); first | done | rfl | (simp only [List.length_drop, List.length_take]; rfl)) ?_; (with_reducible refine (pack_Get.calls k _ _ l0 252 4 t136 t137 _ ?side1 ?side2 A3.out).mono ?_); (case side1 => repeat (first | exact HR0.out | (with_reducible refine Kd.C_alloc ?_ _) | (with_reducible refine Kd.C_drewN ?_ _) | (with_reducible refine Kd.C_drew ?_))); (case side2 => exact HC0.out); rintro e w' ⟨rfl, ⟨nd, rfl⟩⟩; refine ⟨_, rfl, ?_⟩; obtain ⟨i012, hi012, _, hsz12, _⟩ := info_parts info5; obtain ⟨hcut12, hA12, hC12⟩ := print_take_of (P := Try.prog) (Value.int .u8) 0 28 5 .i64 Try.underlying28 hi012 hsz12 A0 c0 l0 252 (by omega) (of_decide_eq_true (by first | (with_reducible assumption) | assumption)) HC0.out; have HR138 := Aside0.mk (Kd.C_of_reads (h1 := fun _ => rfl) (hA12 _ (Kd.reads_of_C HR0.out))); have HC138 := Aside0.mk hC12; clear hA12 hC12 hi012 hsz12) | ((with_reducible refine gate_callee (f := 38) rfl ?_); refine goesL_ (some 18) rfl rfl Try.func38 (by kernel_rfl) rfl #[.slice A0 (l0.take 252).length c0] rfl (by (try simp only [List.map_toArray, List.map_cons, List.map_nil]); first | done | (rw [show (l0.take 252).length = 252 from (by rw [List.length_take]; have h_ : (252 : Int) ≤ (l0.length : Int) := of_decide_eq_true (by first | (with_reducible assumption) | assumption); omega)] <;> rfl) | rfl | (simp only [List.length_drop, List.length_take]; rfl)) ?_; (with_reducible refine (pack_Sum.calls k _ _ (l0.take 252) t139 _ ?side1 ?side2 A5.out).mono ?_); (case side1 => repeat (first | exact HR138.out | (with_reducible refine Kd.C_alloc ?_ _) | (with_reducible refine Kd.C_drewN ?_ _) | (with_reducible refine Kd.C_drew ?_))); (case side2 => exact HC138.out); rintro e w' ⟨rfl, ⟨nd, rfl⟩⟩; refine ⟨_, rfl, ?_⟩))
        go_ret2
        exact ⟨_, by first | rfl | (simp [errW_none, errW_some] <;> rfl) | (simp [*, errW_none, errW_some] <;> rfl), by first | exact Kd.R_nil _ _ _ _ _ | exact Kd.N_nil _ _ _ _ _ | exact Kd.V_nil _ _ _ _ _ | exact Kd.Q_nil _ _ _ _ _ | exact Kd.S_nil _ _ _ _ _, by repeat (first | (with_reducible first | exact HB.out | apply below_alloc | apply pw_below_drewN | apply below_drew1) | exact HB.out)⟩
    · rw [if_neg c4] at H
      exact absurd H (by simp)
  · rw [if_neg c2] at H
    have c2b0 : ((l0.length : Int) == 256) = false := beq_eq_false_iff_ne.mpr c2
    have c2b1 : ((l0.length : Int) != 256) = true := bne_iff_ne.mpr c2
    simp only [Option.some.injEq, Prod.mk.injEq] at H
    obtain ⟨rfl, rfl⟩ := H
    go_enter Try.func36, Try.ntmps36
    go_wp2
    go_ret2
    exact ⟨_, by first | rfl | (simp [errW_none, errW_some] <;> rfl) | (simp [*, errW_none, errW_some] <;> rfl), by first | exact Kd.R_nil _ _ _ _ _ | exact Kd.N_nil _ _ _ _ _ | exact Kd.V_nil _ _ _ _ _ | exact Kd.Q_nil _ _ _ _ _ | exact Kd.S_nil _ _ _ _ _, by repeat (first | (with_reducible first | exact HB.out | apply below_alloc | apply pw_below_drewN | apply below_drew1) | exact HB.out)⟩

/-! ### ashlarlaw02_PackBack: function 7, by hand -/
set_option linter.unusedSimpArgs false
set_option maxHeartbeats 800000 in
set_option maxRecDepth 100000 in
theorem ashlarlaw02_PackBack.long (k : Nat) (A0 : Option Addr) (c0 : Nat) (l0 x : List Int) (e_ a1 a2 : Int) (w : World) (hr0 : Kd.C (Kd.int .u8) w A0 l0.length l0) (hc0 : l0.length ≤ c0)
    (h1 : ashlarlaw02_awake.f k = some true) (h2 : pack_Seal.f k l0 = some (x, e_)) (h3 : e_ ≠ 0) (h4 : 252 < l0.length) :
    Calls Try.prog 7 #[.slice A0 l0.length c0, .int .u64 a1, .int .u8 a2] w fun e w' => e = .returned (.bool true) ∧ Below w.heap.size w w' := by
  have HR := Aside0.mk hr0
  have HC := Aside0.mk hc0
  have H1 := Aside0.mk h1
  have H2 := Aside0.mk h2
  have q1 : (e_ != 0) = true := bne_iff_ne.2 h3
  have q2 : decide (252 < l0.length) = true := decide_eq_true h4
  have q3 : decide ((252 : Int) < (l0.length : Int)) = true := decide_eq_true (by omega)
  clear hr0 hc0 h1 h2 h3 h4
  go_enter Try.func7, Try.ntmps7
  go_wp2_with (first
    | (go_at_call 29; go_must (refine (ashlarlaw02_awake.calls k true _ H1.out).mono ?_); rintro e w1 ⟨rfl, hb⟩; have HB1 := Aside0.mk hb; clear hb)
    | (go_at_call 34; go_must (refine (pack_Seal.calls k _ _ _ l0 x e_ _ (Kd.V_mk HC.out (Kd.C_F (Kd.heap_int .u8) (Kd.C_below HR.out HB1.out))) H2.out).mono ?_); rintro e w2 ⟨v1, rfl, ho, hb⟩; have HB2 := Aside0.mk (below_step HB1.out hb); clear ho hb))
  go_ret
  exact ⟨by simp, HB2.out⟩
def ashlarlaw02_PackBack.rt7.T : Bool × List (List Nat × List Nat) := (true, [([], []), ([0], [0]), ([1], [1]), ([2], [2]), ([3, 2], [2, 3]), ([4, 2], [2, 4]), ([2, 5], [2, 5]), ([6, 2], [6]), ([7], [7]), ([7], [7]), ([9, 7], [7, 9]), ([8, 10, 7], [7, 8, 10]), ([11, 7], [7, 11]), ([7], [7]), ([13, 7], [7, 13]), ([12, 14, 7], [7, 12, 14]), ([7, 15], [7, 15])])
def ashlarlaw02_PackBack.rt7.B : List Nat := [0, 1, 3, 7, 15, 31, 63, 127, 255, 255, 767, 2047, 4095, 255, 8447, 32767, 65535]
theorem ashlarlaw02_PackBack.rt7.tab : rtab .any (opsOf Try.f7 7) = ashlarlaw02_PackBack.rt7.T := by kernel_rfl
theorem ashlarlaw02_PackBack.rt7.bits : waitsOk ashlarlaw02_PackBack.rt7.T.2 ashlarlaw02_PackBack.rt7.B = true := by kernel_rfl
set_option maxHeartbeats 2000000 in
set_option maxRecDepth 100000 in
theorem ashlarlaw02_PackBack.one (k : Nat) (A0 : Option Addr) (c0 : Nat) (l0 x c u : List Int) (a1 a2 : Int) (w : World) (hr0 : Kd.C (Kd.int .u8) w A0 l0.length l0) (hc0 : l0.length ≤ c0) (ha1 : 0 ≤ a1 ∧ a1 ≤ 18446744073709551615)
    (h1 : ashlarlaw02_awake.f k = some true) (h2 : pack_Seal.f k l0 = some (x, 0)) (h3 : pack_Open.f k x = some (c, true)) (h4 : c.length = 252) (h5 : l0.length ≤ 252) (h6 : c.take l0.length = l0) (h7 : x.length = 256)
    (h8 : pack_Open.f k (x.set (a1 % 256).toNat (Go.bits .xor .u8 (rd x (a1 % 256)) a2)) = some (u, a2 == 0)) :
    Calls Try.prog 7 #[.slice A0 l0.length c0, .int .u64 a1, .int .u8 a2] w fun e w' => e = .returned (.bool true) ∧ Below w.heap.size w w' := by
  have HR := Aside0.mk hr0
  have HC := Aside0.mk hc0
  have H1 := Aside0.mk h1
  have H2 := Aside0.mk h2
  have H3 := Aside0.mk h3
  have H4 := Aside0.mk h4
  have H5 := Aside0.mk h5
  have H6 := Aside0.mk h6
  have H7 := Aside0.mk h7
  have q1 : ((a2 == 0) == (a2 == 0)) = true := by simp
  obtain ⟨j, hj⟩ : ∃ j, j = a1 % 256 := ⟨_, rfl⟩
  have hj0 : 0 ≤ j := by omega
  have hj1 : j < 256 := by omega
  rw [← hj] at h8
  have hjm : a1.tmod 256 = j := by rw [Int.tmod_eq_emod_of_nonneg ha1.1, hj]
  have hjm2 : a1 % 256 = j := hj.symm
  have H8 := Aside0.mk h8
  have q2 : ((c.length : Int) != 252) = false := by rw [h4]; rfl
  have q3 : ((strOfNums l0).toList != (strOfNums l0).toList) = false := by simp
  clear hr0 hc0 h1 h2 h3 h4 h5 h6 h7 h8 hj
  go_enter Try.func7, Try.ntmps7
  go_upto_region 7 with (first
    | (go_at_call 29; go_must (refine (ashlarlaw02_awake.calls k true _ H1.out).mono ?_); rintro e w1 ⟨rfl, hb⟩; have HB1 := Aside0.mk hb; clear hb)
    | (go_at_call 34; go_must (refine (pack_Seal.calls k _ _ _ l0 x 0 _ (Kd.V_mk HC.out (Kd.C_F (Kd.heap_int .u8) (Kd.C_below HR.out HB1.out))) H2.out).mono ?_); rintro e w2 ⟨v1, rfl, ho, hb⟩; obtain ⟨A2, c2, rfl⟩ := Kd.R_slice ho; have HO2 := Aside0.mk (Kd.R_mono (ok' := fun _ => True) ho (fun _ _ => trivial)); have HB2 := Aside0.mk (below_step HB1.out hb); clear ho hb)
    | (go_at_call 36; go_must (refine (pack_Open.calls k _ _ x c true _ (Kd.R_reads' HO2.out).2.2 (Kd.R_reads' HO2.out).2.1 H3.out).mono ?_); rintro e w3 ⟨v1, rfl, ho, hb⟩; obtain ⟨A3, c3, rfl⟩ := Kd.R_slice ho; have HO3 := Aside0.mk ho; have HP3 := Aside0.mk (Kd.R_below HO2.out hb); have HB3 := Aside0.mk (below_step HB2.out hb); clear ho hb))
  (try simp only [Act.put, List.setIfInBounds_toArray, List.set_cons_zero, List.set_cons_succ])
  have kc : ∀ W : World, (Instr.slice 28 (.slice A3 c.length c3) none (some (.int .i64 (l0.length : Int))) none).run Try.prog W = .ok (.slice A3 l0.length c3) W := by
    intro W
    have := cut_to (P := Try.prog) 28 5 .i64 Try.underlying28 rfl A3 c.length c3 (l0.length : Int) (by omega) (by have := H4.out; have := H5.out; omega) (Kd.R_reads' HO3.out).2.1 W
    rwa [Int.toNat_natCast] at this
  have HC3 := Aside0.mk (show Kd.C (Kd.int .u8) w3 A3 l0.length l0 from by
    have h := Kd.C_take (m := l0.length) (Kd.R_reads' HO3.out).2.2 (by have := H4.out; have := H5.out; omega)
    rwa [H6.out] at h)
  have kd : Sem.run Try.prog (convert 28 9 (.slice A3 l0.length c3)) w3.drew = Result.ok (Value.string (strOfNums l0)) w3.drew := Kd.C_string Try.underlying28 Try.underlying5 Try.underlying9 (Kd.C_drew HC3.out)
  have ke : Sem.run Try.prog (convert 28 9 (.slice A0 l0.length c0)) w3.drew = Result.ok (Value.string (strOfNums l0)) w3.drew := Kd.C_string Try.underlying28 Try.underlying5 Try.underlying9 (Kd.C_drew (Kd.C_below HR.out HB3.out))
  have KD := Aside0.mk kd
  have KE := Aside0.mk ke
  clear kd ke
  refine start_ (n := 17) (S := fun w' => Sem.run Try.prog (convert 28 9 (.slice A3 l0.length c3)) w' = Result.ok (Value.string (strOfNums l0)) w' ∧ Sem.run Try.prog (convert 28 9 (.slice A0 l0.length c0)) w' = Result.ok (Value.string (strOfNums l0)) w') (ds := []) #[false, false, false, false, false, false, false, false, false, false, false, false, false, false, false, false, false] (by kernel_rfl) rfl rfl (⟨KD.out, KE.out⟩) (fun hHeld => ?_); refine with_tabW ashlarlaw02_PackBack.rt7.tab ashlarlaw02_PackBack.rt7.bits (fun HT_ HW_ => ?_)
  refine pure_ (i := 0) (N := some 30) (v := ?_) (a' := ?_) #[true, false, false, false, false, false, false, false, false, false, false, false, false, false, false, false, false] rfl rfl (any_of HT_.out (by kernel_rfl)) (fun _ _ _ h => h) (Or.inl ⟨by rfl, ?_⟩) ?_ ?_
  rotate_left
  · intro w'
    go_simp; first | done | with_reducible rfl
  rotate_left
  · simp only [Act.put, List.setIfInBounds_toArray, List.set_cons_zero, List.set_cons_succ, i64_w, i32_w]
    rfl
  refine pure_ (i := 1) (N := some 31) (v := ?_) (a' := ?_) #[true, true, false, false, false, false, false, false, false, false, false, false, false, false, false, false, false] rfl rfl (any_of HT_.out (by kernel_rfl)) (fun _ _ _ h => h) (Or.inl ⟨by rfl, ?_⟩) ?_ ?_
  rotate_left
  · intro w'
    go_simp; first | done | with_reducible rfl
  rotate_left
  · simp only [Act.put, List.setIfInBounds_toArray, List.set_cons_zero, List.set_cons_succ, i64_w, i32_w]
    rfl
  refine pure_ (i := 2) (N := some 32) (v := ?_) (a' := ?_) #[true, true, true, false, false, false, false, false, false, false, false, false, false, false, false, false, false] rfl rfl (any_of HT_.out (by kernel_rfl)) (fun _ _ _ h => h) (Or.inl ⟨by rfl, ?_⟩) ?_ ?_
  rotate_left
  · intro w'
    go_simp; first | done | with_reducible rfl
  rotate_left
  · simp only [Act.put, List.setIfInBounds_toArray, List.set_cons_zero, List.set_cons_succ, i64_w, i32_w]
    rfl
  refine pure_ (i := 3) (N := some 33) (v := ?_) (a' := ?_) #[true, true, true, true, false, false, false, false, false, false, false, false, false, false, false, false, false] rfl rfl (any_of HT_.out (by kernel_rfl)) (fun _ _ _ h => h) (Or.inl ⟨by rfl, ?_⟩) ?_ ?_
  rotate_left
  · intro w'
    go_simp; first | done | with_reducible rfl
  rotate_left
  · simp only [Act.put, List.setIfInBounds_toArray, List.set_cons_zero, List.set_cons_succ, i64_w, i32_w]
    rfl
  refine pure_ (i := 4) (N := some 34) (v := ?_) (a' := ?_) #[true, true, true, true, true, false, false, false, false, false, false, false, false, false, false, false, false] rfl rfl (any_of HT_.out (by kernel_rfl)) (fun _ _ _ h => h) (Or.inl ⟨by rfl, ?_⟩) ?_ ?_
  rotate_left
  · intro w'
    go_simp; first | done | with_reducible rfl
  rotate_left
  · simp only [Act.put, List.setIfInBounds_toArray, List.set_cons_zero, List.set_cons_succ, i64_w, i32_w]
    rfl
  refine pure_ (i := 5) (N := some 35) (v := ?_) (a' := ?_) #[true, true, true, true, true, true, false, false, false, false, false, false, false, false, false, false, false] rfl rfl (any_of HT_.out (by kernel_rfl)) (fun _ _ _ h => h) (Or.inl ⟨by rfl, ?_⟩) ?_ ?_
  rotate_left
  · intro w'
    go_simp; first | done | with_reducible rfl
  rotate_left
  · simp only [Act.put, List.setIfInBounds_toArray, List.set_cons_zero, List.set_cons_succ, i64_w, i32_w]
    rfl
  refine pure_ (i := 6) (N := some 36) (v := ?_) (a' := ?_) #[true, true, true, true, true, true, true, false, false, false, false, false, false, false, false, false, false] rfl rfl (any_of HT_.out (by kernel_rfl)) (fun _ _ _ h => h) (Or.inl ⟨by rfl, ?_⟩) ?_ ?_
  rotate_left
  · intro w'
    go_simp; first | done | with_reducible rfl
  rotate_left
  · simp only [Act.put, List.setIfInBounds_toArray, List.set_cons_zero, List.set_cons_succ, i64_w, i32_w]
    rfl
  refine pure_ (i := 7) (N := some 37) (v := ?_) (a' := ?_) #[true, true, true, true, true, true, true, true, false, false, false, false, false, false, false, false, false] rfl rfl (any_of HT_.out (by kernel_rfl)) (fun _ _ _ h => h) (Or.inl ⟨by rfl, ?_⟩) ?_ ?_
  rotate_left
  · intro w'
    go_simp; first | done | with_reducible rfl
  rotate_left
  · simp only [Act.put, List.setIfInBounds_toArray, List.set_cons_zero, List.set_cons_succ, i64_w, i32_w]
    rfl
  refine pure_ (i := 8) (N := some 38) (v := ?_) (a' := ?_) #[true, true, true, true, true, true, true, true, true, false, false, false, false, false, false, false, false] rfl rfl (any_of HT_.out (by kernel_rfl)) (fun _ _ _ h => h) (Or.inl ⟨by rfl, ?_⟩) ?_ ?_
  rotate_left
  · intro w'
    go_simp; first | done | with_reducible rfl
  rotate_left
  · simp only [Act.put, List.setIfInBounds_toArray, List.set_cons_zero, List.set_cons_succ, i64_w, i32_w]
    rfl
  refine pure_ (i := 9) (N := some 39) (v := ?_) (a' := ?_) #[true, true, true, true, true, true, true, true, true, true, false, false, false, false, false, false, false] rfl rfl (any_of HT_.out (by kernel_rfl)) (fun _ _ _ h => h) (Or.inl ⟨by rfl, ?_⟩) ?_ ?_
  rotate_left
  · intro w'
    go_simp; first | done | with_reducible rfl
  rotate_left
  · simp only [Act.put, List.setIfInBounds_toArray, List.set_cons_zero, List.set_cons_succ, i64_w, i32_w]
    rfl
  refine pure_ (i := 10) (N := some 40) (v := ?_) (a' := ?_) #[true, true, true, true, true, true, true, true, true, true, true, false, false, false, false, false, false] rfl rfl (any_of HT_.out (by kernel_rfl)) (fun _ _ _ h => h) (Or.inl ⟨by rfl, ?_⟩) ?_ ?_
  rotate_left
  · intro w'
    go_simp; first | done | with_reducible rfl
  rotate_left
  · simp only [Act.put, List.setIfInBounds_toArray, List.set_cons_zero, List.set_cons_succ, i64_w, i32_w]
    rfl
  refine pure_ (i := 11) (N := some 41) (v := ?_) (a' := ?_) #[true, true, true, true, true, true, true, true, true, true, true, true, false, false, false, false, false] rfl rfl (any_of HT_.out (by kernel_rfl)) (fun _ _ _ h => h) (Or.inl ⟨by rfl, ?_⟩) ?_ ?_
  rotate_left
  · intro w'
    go_simp; first | done | with_reducible rfl
  rotate_left
  · simp only [Act.put, List.setIfInBounds_toArray, List.set_cons_zero, List.set_cons_succ, i64_w, i32_w]
    rfl
  refine pure_ (i := 13) (N := some 43) (v := ?_) (a' := ?_) #[true, true, true, true, true, true, true, true, true, true, true, true, false, true, false, false, false] rfl rfl (any_of HT_.out (by kernel_rfl)) (fun _ _ _ h => h) (Or.inl ⟨by rfl, ?_⟩) ?_ ?_
  rotate_left
  · intro w'
    go_simp; first | done | with_reducible rfl
  rotate_left
  · simp only [Act.put, List.setIfInBounds_toArray, List.set_cons_zero, List.set_cons_succ, i64_w, i32_w]
    rfl
  refine take_ (i := 12) (N := some 42) (v := ?_) (a' := ?_) #[true, true, true, true, true, true, true, true, true, true, true, true, true, true, false, false, false] rfl rfl (take_ofW HT_.out HW_.out (by kernel_rfl)) (fun _ _ _ h => h) (Or.inl ⟨by rfl, ?_⟩) hHeld ?_ ?_
  rotate_left
  · intro w' hS'
    obtain ⟨hS1, hS2⟩ := hS'; go_simp; first | done | with_reducible rfl
  rotate_left
  · simp only [Act.put, List.setIfInBounds_toArray, List.set_cons_zero, List.set_cons_succ, i64_w, i32_w]
    rfl
  refine take_ (i := 14) (N := some 44) (v := ?_) (a' := ?_) #[true, true, true, true, true, true, true, true, true, true, true, true, true, true, true, false, false] rfl rfl (take_ofW HT_.out HW_.out (by kernel_rfl)) (fun _ _ _ h => h) (Or.inl ⟨by rfl, ?_⟩) hHeld ?_ ?_
  rotate_left
  · intro w' hS'
    obtain ⟨hS1, hS2⟩ := hS'; go_simp; first | done | with_reducible rfl
  rotate_left
  · simp only [Act.put, List.setIfInBounds_toArray, List.set_cons_zero, List.set_cons_succ, i64_w, i32_w]
    rfl
  refine pure_ (i := 15) (N := some 45) (v := ?_) (a' := ?_) #[true, true, true, true, true, true, true, true, true, true, true, true, true, true, true, true, false] rfl rfl (any_of HT_.out (by kernel_rfl)) (fun _ _ _ h => h) (Or.inl ⟨by rfl, ?_⟩) ?_ ?_
  rotate_left
  · intro w'
    go_simp; first | done | with_reducible rfl
  rotate_left
  · simp only [Act.put, List.setIfInBounds_toArray, List.set_cons_zero, List.set_cons_succ, i64_w, i32_w]
    rfl
  refine pure_ (i := 16) (N := some 46) (v := ?_) (a' := ?_) #[true, true, true, true, true, true, true, true, true, true, true, true, true, true, true, true, true] rfl rfl (any_of HT_.out (by kernel_rfl)) (fun _ _ _ h => h) (Or.inl ⟨by rfl, ?_⟩) ?_ ?_
  rotate_left
  · intro w'
    go_simp; first | done | with_reducible rfl
  rotate_left
  · simp only [Act.put, List.setIfInBounds_toArray, List.set_cons_zero, List.set_cons_succ, i64_w, i32_w]
    rfl
  refine done_ (done_of HT_.out (by kernel_rfl)) ?_
  clear HT_ HW_ hHeld KD KE kc HO3 HC3 H6 HO2
  obtain ⟨g, cap, hform, gb, _⟩ := Kd.R_form HP3.out (by have := H7.out; omega)
  have hxl : x.length = 256 := H7.out
  injection hform with hA2 hln hcap
  subst hA2
  clear hcap hln
  have GB := Aside0.mk gb
  clear gb
  have HP4 := Aside0.mk (Kd.R_drew HP3.out)
  have HB4 := Aside0.mk (below_drew1 HB3.out)
  obtain ⟨hx9, hf9⟩ := Kd.R_cell 0 HP4.out j hj0 (by omega)
  have HP5 := Aside0.mk (Kd.R_putg HP4.out j (Go.bits .xor .u8 (rd x j) a2))
  have hj0' : (0 ≤ j) = True := eq_true hj0
  have hj1' : (j < (x.length : Int)) = True := eq_true (by omega)
  have hj1'' : (j < 256) = True := eq_true hj1
  clear hxl
  go_wp2_with (first
    | ((with_reducible refine gate_store (t := 5) (p := 54) rfl ?_); refine store_event (t := 5) (p := 54) (v := ?vo) (w1 := (w3.drew.setCell ⟨g, j.toNat, none⟩ (.int .u8 (Go.bits .xor .u8 (rd x j) a2)))) ?hg ?ho ?hn ?hr ?_; (case ho => rfl); (case hg => rfl); (case hn => rfl); (case hr => first | (go_simp; done) | (go_simp; rfl)); intro w4 hw; have HP6 := Aside0.mk (show Kd.R (Kd.int .u8) 5 w4 _ _ (.slice (some ⟨g, 0, none⟩) x.length c2) (x.set j.toNat (Go.bits .xor .u8 (rd x j) a2)) from by rw [hw]; exact HP5.out.1); have HB6 := Aside0.mk (show Below w.heap.size w w4 from by rw [hw]; exact below_set HB4.out (Nat.le_trans HB1.out.size GB.out)); clear hw HP5)
    | (go_at_call 36; have HX6 := Kd.R_reads' HP6.out; have HY6 := pack_Open.calls k (some ⟨g, 0, none⟩) c2 (x.set j.toNat (Go.bits .xor .u8 (rd x j) a2)) u (a2 == 0) w4 HX6.2.2 (by have := HX6.1; have := HX6.2.1; omega) H8.out; rw [List.length_set] at HY6; clear HX6; go_must (refine HY6.mono ?_); clear HY6; rintro e w5 ⟨v1, rfl, ho, hb⟩; have HB7 := Aside0.mk (below_step HB6.out hb); clear ho hb))
  go_ret
  exact ⟨by simp, HB7.out⟩
/-- What is left, over numbers and lists. -/
def ashlarlaw02_PackBack.Pure : Prop := ∀ (l0 : List Int) (a1 a2 : Int), l0.length ≤ maxLen → l0.length * 1 ≤ 140737488351232 → (∀ x ∈ l0, (Lit.int .u8 x).wf = true) → (Lit.int .u64 a1).wf = true → (Lit.int .u8 a2).wf = true →
    ∃ (k : Nat), ashlarlaw02_awake.f k = some true ∧ ((252 < l0.length ∧ ∃ (x : List Int) (e_ : Int), pack_Seal.f k l0 = some (x, e_) ∧ e_ ≠ 0) ∨
      (l0.length ≤ 252 ∧ ∃ (x c u : List Int), pack_Seal.f k l0 = some (x, 0) ∧ pack_Open.f k x = some (c, true) ∧ c.length = 252 ∧ c.take l0.length = l0 ∧ x.length = 256 ∧ pack_Open.f k (x.set (a1 % 256).toNat (Go.bits .xor .u8 (rd x (a1 % 256)) a2)) = some (u, a2 == 0)))
theorem ashlarlaw02_PackBack.walk (P : ashlarlaw02_PackBack.Pure) (a0 : Option Addr) (len0 cap0 : Nat) (z0 : List Int) (a1 a2 : Int) (w : World) (w0 : (a0 = none ∧ len0 = 0 ∧ cap0 = 0 ∧ z0 = []) ∨ ∃ x, a0 = some x ∧ len0 ≤ cap0 ∧ cap0 ≤ maxLen ∧ z0.length = cap0 ∧ (∀ i, i < z0.length → w.cell? (x.add i) = some (.int .u8 (z0.getD i 0))) ∧ ∀ n ∈ z0, (Lit.int .u8 n).wf = true) (y0 : len0 * 1 ≤ 140737488351232)
    (w1 : (Lit.int .u64 a1).wf = true) (w2 : (Lit.int .u8 a2).wf = true) :
    Calls Try.prog 7 #[.slice a0 len0 cap0, .int .u64 a1, .int .u8 a2] w fun e w' => e = .returned (.bool true) ∧ Below w.heap.size w w' := by
  obtain ⟨l0, rfl, hr0, hm0, hw0, hc0⟩ := ReadsInt.ofRowC w0
  have hr := Kd.C_of_reads (d := (0 : Int)) (h1 := fun _ => rfl) hr0
  obtain ⟨k, h1, ⟨hl, x, e_, h2, h3⟩ | ⟨hl, x, c, u, h2, h3, h4, h5, h6, h7⟩⟩ := P l0 a1 a2 hm0 y0 hw0 w1 w2
  · exact ashlarlaw02_PackBack.long k _ _ l0 x e_ a1 a2 w hr hc0 h1 h2 h3 hl
  · exact ashlarlaw02_PackBack.one k _ _ l0 x c u a1 a2 w hr hc0 (by have := w1; simp [Lit.wf, IntKind.min, IntKind.max, IntKind.signed, IntKind.bits] at this; omega) h1 h2 h3 h4 hl h5 h6 h7


end Go.Proofs.Ytpcdfmfmakahkaa.PPackBack
