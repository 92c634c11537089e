/- Written by a program of this session (xprint.py) out of the translation. What is proved, in the end: the Go law PackSeals answers true at every input, and its arguments read behind the call as before; no condition. -/
import Derived.Test.YtpcdfmfmakahkaaPPackSealsx0
import Derived.Test.YtpcdfmfmakahkaaPPackSealsx1
namespace Go.Proofs.Ytpcdfmfmakahkaa.PPackSeals
open Go.RowKit Go.Proofs.YtpcdfmfmakahkaaW.PrintWords Go.Proofs.YtpcdfmfmakahkaaW.PrintLast Go.Proofs.YtpcdfmfmakahkaaW.PrintMore
attribute [local go_sem] max2_int min2_int max_two min_two max_three min_three max_four min_four   -- for this text's walks alone
set_option linter.unusedVariables false
set_option linter.unusedSimpArgs false

/-! ### ashlarref01_Sum: function 39 -/
def ashlarref01_Sum.l0 : Nat → List Int → Int → Int → Int → Option (Int)
  | 0, _, _, _, _ => none
  | k + 1, x0, x3, x6, x7 => if x7 < x6 then (if 0 ≤ x7 then (if x7 < (x0.length : Int) then (ashlarref01_Sum.l0 k x0 (((Go.bits .xor .u32 x3 ((rd x0 x7) % 4294967296)) * 16777619) % 4294967296) x6 (wrap64 (x7 + 1))) else (none)) else (none)) else (some x3)
def ashlarref01_Sum.f (k : Nat) (l0 : List Int) : Option (Int) := ashlarref01_Sum.l0 k l0 2166136261 (l0.length : Int) 0
theorem ashlarref01_Sum.mono_l : ∀ k, (∀ y0 y1 y2 y3, LeO (ashlarref01_Sum.l0 k y0 y1 y2 y3) (ashlarref01_Sum.l0 (k + 1) y0 y1 y2 y3))
  | 0 => fun _ _ _ _ r h => by simp [ashlarref01_Sum.l0] at h
  | k + 1 => by
    have ih0 := ashlarref01_Sum.mono_l k
    · intro y0 y1 y2 y3
      unfold ashlarref01_Sum.l0
      repeat' first
      | (with_reducible exact ih0 _ _ _ _)
      | (with_reducible exact LeO.refl _)
      | (with_reducible exact LeO.none _)
      | (with_reducible refine LeO.ite ?_ ?_)
      | (with_reducible refine LeO.bind ?_ (fun _ => ?_))
      | exact ih0 _ _ _ _
      | exact LeO.none _
      | refine LeO.ite ?_ ?_
      | refine LeO.bind ?_ (fun _ => ?_)
theorem ashlarref01_Sum.mono : ∀ a0 k, LeO (ashlarref01_Sum.f k a0) (ashlarref01_Sum.f (k + 1) a0) := by
  intro a0 k
  have ih0 := ashlarref01_Sum.mono_l k
  unfold ashlarref01_Sum.f
  repeat' first
      | (with_reducible exact ih0 _ _ _ _)
      | (with_reducible exact LeO.refl _)
      | (with_reducible exact LeO.none _)
      | (with_reducible refine LeO.ite ?_ ?_)
      | (with_reducible refine LeO.bind ?_ (fun _ => ?_))
      | exact ih0 _ _ _ _
      | exact LeO.none _
      | refine LeO.ite ?_ ?_
      | refine LeO.bind ?_ (fun _ => ?_)
set_option maxHeartbeats 8000000 in
set_option maxRecDepth 100000 in
theorem ashlarref01_Sum.calls (k : Nat) (A0 : Option Addr) (c0 : Nat) (l0 : List Int) (r : Int) (w : World) (hr0 : Kd.C (Kd.int .u8) w A0 l0.length l0) (hc0 : l0.length ≤ c0) (h : ashlarref01_Sum.f k l0 = some r) :
    Calls Try.prog 39 #[.slice A0 l0.length c0] w fun e w' => e = .returned (.int .u32 r) ∧ Drawn0 w w' := by
  have HR0 := Aside0.mk hr0
  have HC0 := Aside0.mk hc0
  clear hr0 hc0
  have H : (ashlarref01_Sum.l0 k l0 2166136261 (l0.length : Int) 0) = some r := h
  clear h
  have H' := Aside0.mk H
  clear H
  go_enter Try.func39, Try.ntmps39
  go_wp2
  go_loopg [3, 7] k (fun kq v3 v7 w' => ∃ (x3_1 : Int) (x7_1 : Int), v3 = .int .u32 x3_1 ∧ v7 = .int .i64 x7_1 ∧ Aside0 (ashlarref01_Sum.l0 kq l0 x3_1 (l0.length : Int) x7_1 = some r) ∧ Aside0 (kq ≤ k) ∧ Drawn0 w w')
  case atStart => exact ⟨(2166136261), (0), (by first | rfl | (simp; done) | (simp [*]; done)), (by first | rfl | (simp; done) | (simp [*]; done)), H', ⟨Nat.le_refl _⟩, by repeat (first | exact Drawn0.refl _ | apply Drawn0.step)⟩
  case round =>
    clear H'
    obtain ⟨x3_1, x7_1, rfl, rfl, HA, HK1, ⟨m1, rfl⟩⟩ := hrel
    cases gk with
    | zero => exact absurd HA.out (by simp [ashlarref01_Sum.l0])
    | succ k1 =>
      have H := HA.out
      clear HA
      simp only [ashlarref01_Sum.l0] at H
      by_cases c2 : x7_1 < (l0.length : Int)
      · rw [if_pos c2] at H
        have c2b0 : decide (x7_1 < (l0.length : Int)) = true := decide_eq_true c2
        clear c2
        by_cases c3 : 0 ≤ x7_1
        · rw [if_pos c3] at H
          have c3b0 : decide (0 ≤ x7_1) = true := decide_eq_true c3
          clear c3
          by_cases c4 : x7_1 < (l0.length : Int)
          · rw [if_pos c4] at H
            have c4b0 : decide (x7_1 < (l0.length : Int)) = true := decide_eq_true c4
            clear c4
            have H' := Aside0.mk H
            clear H
            have p144 : 0 ≤ (x7_1 : Int) := of_decide_eq_true (by first | (with_reducible assumption) | assumption)
            have q144 : x7_1 < (l0.length : Int) := of_decide_eq_true (by first | (with_reducible assumption) | assumption)
            obtain ⟨ad144, e144, hx144_0⟩ := Kd.at_int HR0.out x7_1 p144 q144
            cases e144
            replace p144 := eq_true p144
            replace q144 := eq_true q144
            go_wp2
            go_roundg k1
            case measure => have := HK1.out; omega
            case rel => exact ⟨(((Go.bits .xor .u32 x3_1 ((rd l0 x7_1) % 4294967296)) * 16777619) % 4294967296), (wrap64 (x7_1 + 1)), (by first | rfl | (simp; done) | (simp [*]; done)), (by first | rfl | (simp; done) | (simp [*]; done)), H', ⟨by have := HK1.out; omega⟩, by repeat (first | exact Drawn0.refl _ | apply Drawn0.step)⟩
          · rw [if_neg c4] at H
            exact absurd H (by simp)
        · rw [if_neg c3] at H
          exact absurd H (by simp)
      · rw [if_neg c2] at H
        have c2b0 : decide (x7_1 < (l0.length : Int)) = false := decide_eq_false c2
        clear c2
        obtain rfl := Option.some.inj H
        go_wp2
        go_ret
        exact ⟨by first | rfl | (simp; done) | (simp [*]; done), by repeat (first | exact Drawn0.refl _ | apply Drawn0.step)⟩

/-! ### ashlarref01_Seal: function 35 -/
def ashlarref01_Seal.f (k : Nat) (l0 : List Int) : Option (List Int × Int) := if (l0.length : Int) > 252 then (some (([] : List Int), 1)) else ((some (([] : List Int) : List Int)).bind fun y145 => (if y145.length + l0.length < 140737488355328 then ((some (y145 ++ l0 : List Int)).bind fun y148 => (if 0 ≤ (wrap64 (252 - (l0.length : Int))) then (if y148.length + (wrap64 (252 - (l0.length : Int)) : Int).toNat < 140737488355328 then ((some (y148 ++ List.replicate (wrap64 (252 - (l0.length : Int)) : Int).toNat 0 : List Int)).bind fun y151 => ((ashlarref01_Sum.f k y151).bind fun t154 => ((ashlarref01_Put.f k y151 (IntKind.u64.wrap (t154)) 4).bind fun t155 => (some (t155, 0))))) else (none)) else (none))) else (none)))
theorem ashlarref01_Seal.mono : ∀ a0 k, LeO (ashlarref01_Seal.f k a0) (ashlarref01_Seal.f (k + 1) a0) := by
  intro a0 k
  unfold ashlarref01_Seal.f
  repeat' first
      | (with_reducible exact ashlarref01_Put.mono _ _ _ _)
      | (with_reducible exact ashlarref01_Sum.mono _ _)
      | (with_reducible exact LeO.refl _)
      | (with_reducible exact LeO.none _)
      | (with_reducible refine LeO.ite ?_ ?_)
      | (with_reducible refine LeO.bind ?_ (fun _ => ?_))
      | exact ashlarref01_Put.mono _ _ _ _
      | exact ashlarref01_Sum.mono _ _
      | exact LeO.none _
      | refine LeO.ite ?_ ?_
      | refine LeO.bind ?_ (fun _ => ?_)
set_option maxHeartbeats 8000000 in
set_option maxRecDepth 100000 in
theorem ashlarref01_Seal.calls (k : Nat) (A0 : Option Addr) (c0 : Nat) (l0 : List Int) (r1 : List Int) (r2 : Int) (w : World) (hr0 : Kd.C (Kd.int .u8) w A0 l0.length l0) (hc0 : l0.length ≤ c0) (h : ashlarref01_Seal.f k l0 = some (r1, r2)) :
    Calls Try.prog 35 #[.slice A0 l0.length c0] w fun e w' => ∃ v0_ : Value, e = .returned (.tuple #[v0_, .int .i64 r2]) ∧ Kd.R (Kd.int .u8) 5 w' w.heap.size (fun _ => True) v0_ r1 ∧ Below w.heap.size w w' := by
  have HR0 := Aside0.mk hr0
  have HC0 := Aside0.mk hc0
  clear hr0 hc0
  have HB := Aside0.mk (Below.refl w.heap.size w)
  have H : (if (l0.length : Int) > 252 then (some (([] : List Int), 1)) else ((some (([] : List Int) : List Int)).bind fun y145 => (if y145.length + l0.length < 140737488355328 then ((some (y145 ++ l0 : List Int)).bind fun y148 => (if 0 ≤ (wrap64 (252 - (l0.length : Int))) then (if y148.length + (wrap64 (252 - (l0.length : Int)) : Int).toNat < 140737488355328 then ((some (y148 ++ List.replicate (wrap64 (252 - (l0.length : Int)) : Int).toNat 0 : List Int)).bind fun y151 => ((ashlarref01_Sum.f k y151).bind fun t154 => ((ashlarref01_Put.f k y151 (IntKind.u64.wrap (t154)) 4).bind fun t155 => (some (t155, 0))))) else (none)) else (none))) else (none)))) = some (r1, r2) := h
  clear h
  by_cases c2 : (l0.length : Int) > 252
  · rw [if_pos c2] at H
    have c2b0 : decide (252 < (l0.length : Int)) = true := decide_eq_true c2
    have c2b1 : decide (252 < l0.length) = true := decide_eq_true (by omega)
    clear c2
    simp only [Option.some.injEq, Prod.mk.injEq] at H
    obtain ⟨rfl, rfl⟩ := H
    go_enter Try.func35, Try.ntmps35
    go_wp2
    go_ret2
    exact ⟨_, by first | rfl | (simp [errW_none, errW_some] <;> rfl) | (simp [*, errW_none, errW_some] <;> rfl), by first | exact Kd.R_nil _ _ _ _ _ | exact Kd.N_nil _ _ _ _ _ | exact Kd.V_nil _ _ _ _ _ | exact Kd.Q_nil _ _ _ _ _ | exact Kd.S_nil _ _ _ _ _, by repeat (first | (with_reducible first | exact HB.out | apply below_alloc | apply pw_below_drewN | apply below_drew1) | exact HB.out)⟩
  · rw [if_neg c2] at H
    have c2b0 : decide (252 < (l0.length : Int)) = false := decide_eq_false c2
    have c2b1 : decide (252 < l0.length) = false := decide_eq_false (by omega)
    clear c2
    obtain ⟨y145, hy145⟩ : ∃ y_ : List Int, y_ = (([] : List Int)) := ⟨_, rfl⟩
    replace H : (if y145.length + l0.length < 140737488355328 then ((some (y145 ++ l0 : List Int)).bind fun y148 => (if 0 ≤ (wrap64 (252 - (l0.length : Int))) then (if y148.length + (wrap64 (252 - (l0.length : Int)) : Int).toNat < 140737488355328 then ((some (y148 ++ List.replicate (wrap64 (252 - (l0.length : Int)) : Int).toNat 0 : List Int)).bind fun y151 => ((ashlarref01_Sum.f k y151).bind fun t154 => ((ashlarref01_Put.f k y151 (IntKind.u64.wrap (t154)) 4).bind fun t155 => (some (t155, 0))))) else (none)) else (none))) else (none)) = some (r1, r2) := by first | (rw [hy145]; with_reducible exact H) | (have H2_ := (Option.bind_some _ _).symm.trans H; rw [hy145]; with_reducible exact H2_) | (have H2_ := (Option.bind_some _ _).symm.trans H; with_reducible exact H2_) | with_reducible exact H | (rw [hy145]; exact H) | exact H
    have Ny145 := Aside0.mk hy145
    clear hy145
    by_cases c3 : y145.length + l0.length < 140737488355328
    · rw [if_pos c3] at H
      have LMc3 := Aside0.mk c3
      clear c3
      obtain ⟨y148, hy148⟩ : ∃ y_ : List Int, y_ = (y145 ++ l0) := ⟨_, rfl⟩
      replace H : (if 0 ≤ (wrap64 (252 - (l0.length : Int))) then (if y148.length + (wrap64 (252 - (l0.length : Int)) : Int).toNat < 140737488355328 then ((some (y148 ++ List.replicate (wrap64 (252 - (l0.length : Int)) : Int).toNat 0 : List Int)).bind fun y151 => ((ashlarref01_Sum.f k y151).bind fun t154 => ((ashlarref01_Put.f k y151 (IntKind.u64.wrap (t154)) 4).bind fun t155 => (some (t155, 0))))) else (none)) else (none)) = some (r1, r2) := by first | (rw [hy148]; with_reducible exact H) | (have H2_ := (Option.bind_some _ _).symm.trans H; rw [hy148]; with_reducible exact H2_) | (have H2_ := (Option.bind_some _ _).symm.trans H; with_reducible exact H2_) | with_reducible exact H | (rw [hy148]; exact H) | exact H
      have Ny148 := Aside0.mk hy148
      clear hy148
      obtain ⟨ji4, hji4⟩ : ∃ j_ : Int, (wrap64 (252 - (l0.length : Int))) = j_ := ⟨_, rfl⟩
      replace H : (if 0 ≤ (ji4) then (if y148.length + (ji4 : Int).toNat < 140737488355328 then ((some (y148 ++ List.replicate (ji4 : Int).toNat 0 : List Int)).bind fun y151 => ((ashlarref01_Sum.f k y151).bind fun t154 => ((ashlarref01_Put.f k y151 (IntKind.u64.wrap (t154)) 4).bind fun t155 => (some (t155, 0))))) else (none)) else (none)) = some (r1, r2) := by first | (rw [hji4] at H; exact H) | (simp only [hji4] at H ⊢; exact H)
      have hji4w : (IntKind.i64.wrap (252 - (l0.length : Int))) = ji4 := (i64_w _).trans hji4
      by_cases c5 : 0 ≤ (ji4)
      · rw [if_pos c5] at H
        have c5b0 := eq_true c5
        have c5b1 : decide (0 ≤ (ji4)) = true := decide_eq_true c5
        clear c5
        by_cases c6 : y148.length + (ji4 : Int).toNat < 140737488355328
        · rw [if_pos c6] at H
          have LMc6 := Aside0.mk c6
          clear c6
          obtain ⟨y151, hy151⟩ : ∃ y_ : List Int, y_ = (y148 ++ List.replicate (ji4 : Int).toNat 0) := ⟨_, rfl⟩
          replace H : ((ashlarref01_Sum.f k y151).bind fun t154 => ((ashlarref01_Put.f k y151 (IntKind.u64.wrap (t154)) 4).bind fun t155 => (some (t155, 0)))) = some (r1, r2) := by first | (rw [hy151]; with_reducible exact H) | (have H2_ := (Option.bind_some _ _).symm.trans H; rw [hy151]; with_reducible exact H2_) | (have H2_ := (Option.bind_some _ _).symm.trans H; with_reducible exact H2_) | with_reducible exact H | (rw [hy151]; exact H) | exact H
          have Ny151 := Aside0.mk hy151
          clear hy151
          replace H := Option.bind_eq_some_iff.mp H
          obtain ⟨t154, A70, H⟩ := H
          replace H : ((ashlarref01_Put.f k y151 (IntKind.u64.wrap (t154)) 4).bind fun t155 => (some (t155, 0))) = some (r1, r2) := H
          have A7 := Aside0.mk A70
          clear A70
          replace H := Option.bind_eq_some_iff.mp H
          obtain ⟨t155, A80, H⟩ := H
          replace H : (some (t155, 0)) = some (r1, r2) := H
          have A8 := Aside0.mk A80
          clear A80
          simp only [Option.some.injEq, Prod.mk.injEq] at H
          obtain ⟨rfl, rfl⟩ := H
          go_enter Try.func35, Try.ntmps35
          go_wp2_with (first | ((with_reducible refine gate_dst (N := 8) rfl ?_); refine Kd.R_lit (Kd.int .u8) _ 5 ?hg (N := 8) ?hd (xs := ([] : List Int)) (inner := []) (ok := fun _ => True) (okp := fun _ => True) ?hr ?hp (fun _ hk => hk) trivial (Below.refl _ _) (Nat.le_refl _) (by simp) ?_; (case hd => rfl); (case hg => rfl); (case hr => first | (go_simp; done) | (go_simp; rfl)); (case hp => exact (Reps.none _ _)); intro v146 w9 ho10 hb hg_ hnew_; clear hg_ hnew_; (first | rw [← Ny145.out] at ho10 | (simp only [Int.reduceToNat] at ho10; rw [← Ny145.out] at ho10)); have n0_ := Aside0.mk (Kd.R_lower ho10 (below_size (by repeat (first | (with_reducible first | exact HB.out | apply below_alloc | apply pw_below_drewN | apply below_drew1) | exact HB.out)))); have n1_ := Aside0.mk (below_step (by repeat (first | (with_reducible first | exact HB.out | apply below_alloc | apply pw_below_drewN | apply below_drew1) | exact HB.out)) hb); clear HB; have HO147 := n0_; have HB := n1_; clear n0_ n1_; clear hb ho10) | ((with_reducible refine gate_builtin (b := .append) (xs := #[.tmp 8, .tmp 9]) rfl ?_); at_builtin; refine Kd.R_append_rows (Kd.int .u8) (w0 := w) w.heap.size rfl (.tmp 8) (.tmp 9) 28 5 (.int .u8 0) 1 rfl Try.underlying28 info5 rfl (by decide) (by omega) v146 y145 l0 _ _ _ (fun _ => True) (fun _ => False) rfl rfl ?aO ?aR (fun _ _ h => h) (fun _ h => h.elim) ?aF ?aB ?aS ?aL ?_; (case aR => repeat (first | exact (Kd.C_below HR0.out HB.out) | (with_reducible refine Kd.C_alloc ?_ _) | (with_reducible refine Kd.C_drewN ?_ _) | (with_reducible refine Kd.C_drew ?_))); (case aB => exact (by repeat (first | (with_reducible first | exact HB.out | apply below_alloc | apply pw_below_drewN | apply below_drew1) | exact HB.out))); (case aF => exact (fun _ _ => trivial)); (case aO => exact (by (with_reducible repeat (first | apply Kd.R_alloc | apply Kd.R_drewN | apply Kd.R_drew)); exact HO147.out)); (case aS => exact (below_size (by repeat (first | (with_reducible first | exact HB.out | apply below_alloc | apply pw_below_drewN | apply below_drew1) | exact HB.out)))); (case aL => have := LMc3.out; omega); intro v149 w11 ho hb hg hat; rw [← Ny148.out] at ho; have n0_ := Aside0.mk (hb); have n1_ := Aside0.mk (ho); clear HB; clear HO147; have HB := n0_; have HO150 := n1_; clear n0_ n1_; clear ho hb hg hat) | (at_builtin; refine Kd.R_append_zeros (Kd.int .u8) (w0 := w) w.heap.size rfl (.tmp 10) (.tmp 13) 28 3 5 (.int .u8 0) 1 rfl Try.underlying28 Try.underlying3 info5 rfl (by decide) (by omega) v149 y148 0 (ji4 : Int) (fun _ => True) rfl rfl rfl ?aF ?aO (of_decide_eq_true (by first | (with_reducible assumption) | assumption)) ?aB ?aS ?aL ?_; (case aB => exact (by repeat (first | (with_reducible first | exact HB.out | apply below_alloc | apply pw_below_drewN | apply below_drew1) | exact HB.out))); (case aF => exact (fun _ _ => trivial)); (case aO => exact (by (with_reducible repeat (first | apply Kd.R_alloc | apply Kd.R_drewN | apply Kd.R_drew)); exact HO150.out)); (case aS => exact (below_size (by repeat (first | (with_reducible first | exact HB.out | apply below_alloc | apply pw_below_drewN | apply below_drew1) | exact HB.out)))); (case aL => have := LMc6.out; omega); intro v152 w12 ho hb hg hat; rw [← Ny151.out] at ho; have n0_ := Aside0.mk (hb); have n1_ := Aside0.mk (ho); clear HB; clear HO150; have HB := n0_; have HO153 := n1_; clear n0_ n1_; clear ho hb hg hat; obtain ⟨Ao13, co13, eo13⟩ := Kd.R_slice HO153.out; subst eo13) | ((with_reducible refine gate_callee (f := 39) rfl ?_); refine goesL_ (some 17) rfl rfl Try.func39 (by kernel_rfl) rfl #[.slice Ao13 y151.length co13] rfl (by (try simp only [List.map_toArray, List.map_cons, List.map_nil]); first | done | rfl | (simp only [List.length_drop, List.length_take]; rfl)) ?_; (with_reducible refine (ashlarref01_Sum.calls k _ _ y151 t154 _ ?side1 ?side2 A7.out).mono ?_); (case side1 => repeat (first | exact (Kd.R_reads' HO153.out).2.2 | (with_reducible refine Kd.C_alloc ?_ _) | (with_reducible refine Kd.C_drewN ?_ _) | (with_reducible refine Kd.C_drew ?_))); (case side2 => exact (Kd.R_reads' HO153.out).2.1); rintro e w' ⟨rfl, ⟨nd, rfl⟩⟩; refine ⟨_, rfl, ?_⟩) | ((with_reducible refine gate_callee (f := 33) rfl ?_); refine goesL_ (some 19) rfl rfl Try.func33 (by kernel_rfl) rfl #[.slice Ao13 y151.length co13, .int .u64 (IntKind.u64.wrap (t154)), .int .i64 4] rfl (by (try simp only [List.map_toArray, List.map_cons, List.map_nil]); first | done | rfl | (simp only [List.length_drop, List.length_take]; rfl)) ?_; (with_reducible refine (ashlarref01_Put.calls k _ _ y151 (IntKind.u64.wrap (t154)) 4 t155 _ ?side1 ?side2 A8.out).mono ?_); (case side1 => repeat (first | exact (Kd.R_reads' HO153.out).2.2 | (with_reducible refine Kd.C_alloc ?_ _) | (with_reducible refine Kd.C_drewN ?_ _) | (with_reducible refine Kd.C_drew ?_))); (case side2 => exact (Kd.R_reads' HO153.out).2.1); rintro e w14 ⟨v156, rfl, ho0, hb⟩; refine ⟨_, rfl, ?_⟩; have n0_ := Aside0.mk (Kd.R_elder' (by (with_reducible repeat (first | apply Kd.R_alloc | apply Kd.R_drewN | apply Kd.R_drew)); exact HO153.out) (Kd.R_base ho0) hb); have n1_ := Aside0.mk (Kd.R_lower (Kd.R_new' ho0 (Kd.R_lt (by (with_reducible repeat (first | apply Kd.R_alloc | apply Kd.R_drewN | apply Kd.R_drew)); exact HO153.out))) (below_size (by repeat (first | (with_reducible first | exact HB.out | apply below_alloc | apply pw_below_drewN | apply below_drew1) | exact HB.out)))); have n2_ := Aside0.mk (below_step (by repeat (first | (with_reducible first | exact HB.out | apply below_alloc | apply pw_below_drewN | apply below_drew1) | exact HB.out)) hb); clear HO153; clear HB; have HO153 := n0_; have HO157 := n1_; have HB := n2_; clear n0_ n1_ n2_; (try clear hb); (try clear hb2); (try clear hk); (try clear hi); (try clear ho0)))
          go_ret2
          exact ⟨_, by first | rfl | (simp [errW_none, errW_some] <;> rfl) | (simp only [← hji4]; first | rfl | (simp [errW_none, errW_some] <;> rfl)) | (simp [*, errW_none, errW_some] <;> rfl), by (with_reducible repeat (first | apply Kd.R_alloc | apply Kd.R_drewN | apply Kd.R_drew)); exact Kd.R_mono HO157.out (fun _ hk => trivial), by repeat (first | (with_reducible first | exact HB.out | apply below_alloc | apply pw_below_drewN | apply below_drew1) | exact HB.out)⟩
        · rw [if_neg c6] at H
          exact absurd H (by simp)
      · rw [if_neg c5] at H
        exact absurd H (by simp)
    · rw [if_neg c3] at H
      exact absurd H (by simp)

/-! ### pack_Get: function 31 -/
mutual
def pack_Get.j0 : Nat → List Int → Int → Int → Int → Bool → Option (Int × Bool)
  | 0, _, _, _, _, _ => none
  | k + 1, x0, x1, x2, x6, x32 => if x32 = true then (some (0, false)) else (pack_Get.l0 k x0 x1 x6 (wrap64 (x2 - 1)))
def pack_Get.l0 : Nat → List Int → Int → Int → Int → Option (Int × Bool)
  | 0, _, _, _, _ => none
  | k + 1, x0, x1, x6, x8 => if x8 ≥ 0 then (if 0 ≤ (wrap64 (x1 + x8)) then (if (wrap64 (x1 + x8)) < (x0.length : Int) then (pack_Get.l0 k x0 x1 (Go.bits .or .u64 (IntKind.u64.wrap (x6 * 256)) (IntKind.u64.wrap (rd x0 (wrap64 (x1 + x8))))) (wrap64 (x8 - 1))) else (none)) else (none)) else (some (x6, true))
end
def pack_Get.f (k : Nat) (l0 : List Int) (a1 : Int) (a2 : Int) : Option (Int × Bool) := if a2 < 1 then (pack_Get.j0 k l0 a1 a2 0 true) else (if a2 > 8 then (pack_Get.j0 k l0 a1 a2 0 true) else (if a1 < 0 then (pack_Get.j0 k l0 a1 a2 0 true) else (if a1 > (l0.length : Int) then (pack_Get.j0 k l0 a1 a2 0 true) else (pack_Get.j0 k l0 a1 a2 0 (decide (a2 > (wrap64 ((l0.length : Int) - a1))))))))
theorem pack_Get.mono_l : ∀ k, (∀ y0 y1 y2 y3 y4, LeO (pack_Get.j0 k y0 y1 y2 y3 y4) (pack_Get.j0 (k + 1) y0 y1 y2 y3 y4)) ∧ (∀ y0 y1 y2 y3, LeO (pack_Get.l0 k y0 y1 y2 y3) (pack_Get.l0 (k + 1) y0 y1 y2 y3))
  | 0 => ⟨fun _ _ _ _ _ r h => by simp [pack_Get.j0] at h, fun _ _ _ _ r h => by simp [pack_Get.l0] at h⟩
  | k + 1 => by
    obtain ⟨ih0, ih1⟩ := pack_Get.mono_l k
    refine ⟨?_, ?_⟩
    · intro y0 y1 y2 y3 y4
      unfold pack_Get.j0
      repeat' first
      | (with_reducible exact ih0 _ _ _ _ _)
      | (with_reducible exact ih1 _ _ _ _)
      | (with_reducible exact LeO.refl _)
      | (with_reducible exact LeO.none _)
      | (with_reducible refine LeO.ite ?_ ?_)
      | (with_reducible refine LeO.bind ?_ (fun _ => ?_))
      | exact ih0 _ _ _ _ _
      | exact ih1 _ _ _ _
      | exact LeO.none _
      | refine LeO.ite ?_ ?_
      | refine LeO.bind ?_ (fun _ => ?_)
    · intro y0 y1 y2 y3
      unfold pack_Get.l0
      repeat' first
      | (with_reducible exact ih0 _ _ _ _ _)
      | (with_reducible exact ih1 _ _ _ _)
      | (with_reducible exact LeO.refl _)
      | (with_reducible exact LeO.none _)
      | (with_reducible refine LeO.ite ?_ ?_)
      | (with_reducible refine LeO.bind ?_ (fun _ => ?_))
      | exact ih0 _ _ _ _ _
      | exact ih1 _ _ _ _
      | exact LeO.none _
      | refine LeO.ite ?_ ?_
      | refine LeO.bind ?_ (fun _ => ?_)
theorem pack_Get.mono : ∀ a0 a1 a2 k, LeO (pack_Get.f k a0 a1 a2) (pack_Get.f (k + 1) a0 a1 a2) := by
  intro a0 a1 a2 k
  obtain ⟨ih0, ih1⟩ := pack_Get.mono_l k
  unfold pack_Get.f
  repeat' first
      | (with_reducible exact ih0 _ _ _ _ _)
      | (with_reducible exact ih1 _ _ _ _)
      | (with_reducible exact LeO.refl _)
      | (with_reducible exact LeO.none _)
      | (with_reducible refine LeO.ite ?_ ?_)
      | (with_reducible refine LeO.bind ?_ (fun _ => ?_))
      | exact ih0 _ _ _ _ _
      | exact ih1 _ _ _ _
      | exact LeO.none _
      | refine LeO.ite ?_ ?_
      | refine LeO.bind ?_ (fun _ => ?_)
set_option maxHeartbeats 8000000 in
set_option maxRecDepth 100000 in
theorem pack_Get.calls (k : Nat) (A0 : Option Addr) (c0 : Nat) (l0 : List Int) (a1 : Int) (a2 : Int) (r1 : Int) (r2 : Bool) (w : World) (hr0 : Kd.C (Kd.int .u8) w A0 l0.length l0) (hc0 : l0.length ≤ c0) (h : pack_Get.f k l0 a1 a2 = some (r1, r2)) :
    Calls Try.prog 31 #[.slice A0 l0.length c0, .int .i64 a1, .int .i64 a2] w fun e w' => e = .returned (.tuple #[.int .u64 r1, .bool r2]) ∧ Drawn0 w w' := by
  have HR0 := Aside0.mk hr0
  have HC0 := Aside0.mk hc0
  clear hr0 hc0
  have H : (if a2 < 1 then (pack_Get.j0 k l0 a1 a2 0 true) else (if a2 > 8 then (pack_Get.j0 k l0 a1 a2 0 true) else (if a1 < 0 then (pack_Get.j0 k l0 a1 a2 0 true) else (if a1 > (l0.length : Int) then (pack_Get.j0 k l0 a1 a2 0 true) else (pack_Get.j0 k l0 a1 a2 0 (decide (a2 > (wrap64 ((l0.length : Int) - a1))))))))) = some (r1, r2) := h
  clear h
  have HC4 := Aside0.mk H
  clear H
  go_enter Try.func31, Try.ntmps31
  go_upto_region 1 with (fail)
  go_cut [32] (fun v32 wc => ∃ (kq : Nat) (x32_3 : Bool), v32 = .bool x32_3 ∧ Aside0 (pack_Get.j0 kq l0 a1 a2 0 x32_3 = some (r1, r2)) ∧ Aside0 (kq ≤ k) ∧ Drawn0 w wc)
  case first =>
    have H := HC4.out
    clear HC4
    by_cases c5 : a2 < 1
    · rw [if_pos c5] at H
      have c5b0 : decide (a2 < 1) = true := decide_eq_true c5
      clear c5
      (first | rw [c5b0] | (simp only [i64_w, i32_w]; rw [c5b0]) | skip)
      have H' := Aside0.mk H
      clear H
      go_wp2
      go_meet
      case rel => exact ⟨_, (true), (by first | rfl | (simp; done) | (simp [*]; done)), H', ⟨by first | omega | exact Nat.le_refl _⟩, by repeat (first | exact Drawn0.refl _ | apply Drawn0.step)⟩
    · rw [if_neg c5] at H
      have c5b0 : decide (a2 < 1) = false := decide_eq_false c5
      clear c5
      (first | rw [c5b0] | (simp only [i64_w, i32_w]; rw [c5b0]) | skip)
      by_cases c6 : a2 > 8
      · rw [if_pos c6] at H
        have c6b0 : decide (8 < a2) = true := decide_eq_true c6
        clear c6
        have H' := Aside0.mk H
        clear H
        go_wp2
        go_meet
        case rel => exact ⟨_, (true), (by first | rfl | (simp; done) | (simp [*]; done)), H', ⟨by first | omega | exact Nat.le_refl _⟩, by repeat (first | exact Drawn0.refl _ | apply Drawn0.step)⟩
      · rw [if_neg c6] at H
        have c6b0 : decide (8 < a2) = false := decide_eq_false c6
        clear c6
        by_cases c7 : a1 < 0
        · rw [if_pos c7] at H
          have c7b0 : decide (a1 < 0) = true := decide_eq_true c7
          clear c7
          have H' := Aside0.mk H
          clear H
          go_wp2
          go_meet
          case rel => exact ⟨_, (true), (by first | rfl | (simp; done) | (simp [*]; done)), H', ⟨by first | omega | exact Nat.le_refl _⟩, by repeat (first | exact Drawn0.refl _ | apply Drawn0.step)⟩
        · rw [if_neg c7] at H
          have c7b0 : decide (a1 < 0) = false := decide_eq_false c7
          clear c7
          by_cases c8 : a1 > (l0.length : Int)
          · rw [if_pos c8] at H
            have c8b0 : decide ((l0.length : Int) < a1) = true := decide_eq_true c8
            clear c8
            have H' := Aside0.mk H
            clear H
            go_wp2
            go_meet
            case rel => exact ⟨_, (true), (by first | rfl | (simp; done) | (simp [*]; done)), H', ⟨by first | omega | exact Nat.le_refl _⟩, by repeat (first | exact Drawn0.refl _ | apply Drawn0.step)⟩
          · rw [if_neg c8] at H
            have c8b0 : decide ((l0.length : Int) < a1) = false := decide_eq_false c8
            clear c8
            have H' := Aside0.mk H
            clear H
            go_wp2
            go_meet
            case rel => exact ⟨_, (decide (a2 > (wrap64 ((l0.length : Int) - a1)))), (by first | rfl | (simp; done) | (simp [*]; done)), H', ⟨by first | omega | exact Nat.le_refl _⟩, by repeat (first | exact Drawn0.refl _ | apply Drawn0.step)⟩
  case rest =>
    clear HC4
    try clear p2
    try clear c3
    try clear c5
    try clear c5b0
    try clear c6
    try clear c6b0
    try clear p6
    try clear c7
    try clear c7b0
    try clear c8
    try clear c8b0
    obtain ⟨kq, x32_3, rfl, HA, HJ3, ⟨mc3, rfl⟩⟩ := hcut
    cases kq with
    | zero => exact absurd HA.out (by simp [pack_Get.j0])
    | succ kj3 =>
      have H := HA.out
      clear HA
      simp only [pack_Get.j0] at H
      by_cases c9 : x32_3 = true
      · subst c9
        have H1 : (some (0, false)) = some (r1, r2) := by rw [if_pos rfl] at H; exact H
        clear H
        have H := H1
        clear H1
        simp only [Option.some.injEq, Prod.mk.injEq] at H
        obtain ⟨rfl, rfl⟩ := H
        go_wp2
        go_ret2
        exact ⟨by first | rfl | (simp; done) | (simp [*]; done), by repeat (first | exact Drawn0.refl _ | apply Drawn0.step)⟩
      · replace c9 := Bool.eq_false_iff.mpr c9
        subst c9
        have H1 : (pack_Get.l0 kj3 l0 a1 0 (wrap64 (a2 - 1))) = some (r1, r2) := by rw [if_neg (show ¬ (false = true) by decide)] at H; exact H
        clear H
        have H := H1
        clear H1
        have H' := Aside0.mk H
        clear H
        go_wp2
        go_loopg [6, 8] kj3 (fun kq v6 v8 w' => ∃ (x6_2 : Int) (x8_2 : Int), v6 = .int .u64 x6_2 ∧ v8 = .int .i64 x8_2 ∧ Aside0 (pack_Get.l0 kq l0 a1 x6_2 x8_2 = some (r1, r2)) ∧ Aside0 (kq ≤ kj3) ∧ Drawn0 w w')
        case atStart => exact ⟨(0), (wrap64 (a2 - 1)), (by first | rfl | (simp; done) | (simp [*]; done)), (by first | rfl | (simp; done) | (simp [*]; done)), H', ⟨Nat.le_refl _⟩, by repeat (first | exact Drawn0.refl _ | apply Drawn0.step)⟩
        case round =>
          clear H'
          try clear p2
          try clear c3
          try clear c5
          try clear c5b0
          try clear c6
          try clear c6b0
          try clear p6
          try clear c7
          try clear c7b0
          try clear c8
          try clear c8b0
          try clear c9
          try clear p2
          try clear p6
          obtain ⟨x6_2, x8_2, rfl, rfl, HA, HK2, ⟨m2, rfl⟩⟩ := hrel
          cases gk with
          | zero => exact absurd HA.out (by simp [pack_Get.l0])
          | succ k2 =>
            have H := HA.out
            clear HA
            simp only [pack_Get.l0] at H
            by_cases c10 : x8_2 ≥ 0
            · rw [if_pos c10] at H
              have c10b0 : decide (0 ≤ x8_2) = true := decide_eq_true c10
              clear c10
              obtain ⟨ji11, hji11⟩ : ∃ j_ : Int, (wrap64 (a1 + x8_2)) = j_ := ⟨_, rfl⟩
              replace H : (if 0 ≤ (ji11) then (if (ji11) < (l0.length : Int) then (pack_Get.l0 k2 l0 a1 (Go.bits .or .u64 (IntKind.u64.wrap (x6_2 * 256)) (IntKind.u64.wrap (rd l0 (ji11)))) (wrap64 (x8_2 - 1))) else (none)) else (none)) = some (r1, r2) := by first | (rw [hji11] at H; exact H) | (simp only [hji11] at H ⊢; exact H)
              have hji11w : (IntKind.i64.wrap (a1 + x8_2)) = ji11 := (i64_w _).trans hji11
              by_cases c12 : 0 ≤ (ji11)
              · rw [if_pos c12] at H
                have c12b0 : decide (0 ≤ (ji11)) = true := decide_eq_true c12
                clear c12
                by_cases c13 : (ji11) < (l0.length : Int)
                · rw [if_pos c13] at H
                  have c13b0 : decide ((ji11) < (l0.length : Int)) = true := decide_eq_true c13
                  clear c13
                  have H' := Aside0.mk H
                  clear H
                  have p158 : 0 ≤ ((ji11) : Int) := of_decide_eq_true (by first | (with_reducible assumption) | assumption)
                  have q158 : (ji11) < (l0.length : Int) := of_decide_eq_true (by first | (with_reducible assumption) | assumption)
                  obtain ⟨ad158, e158, hx158_0⟩ := Kd.at_int HR0.out (ji11) p158 q158
                  cases e158
                  replace p158 := eq_true p158
                  replace q158 := eq_true q158
                  go_wp2
                  go_roundg k2
                  case measure => have := HJ3.out; have := HK2.out; omega
                  case rel => exact ⟨(Go.bits .or .u64 (IntKind.u64.wrap (x6_2 * 256)) (IntKind.u64.wrap (rd l0 (ji11)))), (wrap64 (x8_2 - 1)), (by first | rfl | (simp; done) | (simp only [← hji11] <;> (first | rfl | simp)) | (simp [*]; done)), (by first | rfl | (simp; done) | (simp [*]; done)), H', ⟨by have := HJ3.out; have := HK2.out; omega⟩, by repeat (first | exact Drawn0.refl _ | apply Drawn0.step)⟩
                · rw [if_neg c13] at H
                  exact absurd H (by simp)
              · rw [if_neg c12] at H
                exact absurd H (by simp)
            · rw [if_neg c10] at H
              have c10b0 : decide (0 ≤ x8_2) = false := decide_eq_false c10
              clear c10
              simp only [Option.some.injEq, Prod.mk.injEq] at H
              obtain ⟨rfl, rfl⟩ := H
              go_wp2
              go_ret2
              exact ⟨by first | rfl | (simp; done) | (simp [*]; done), by repeat (first | exact Drawn0.refl _ | apply Drawn0.step)⟩

/-! ### pack_Open: function 36 -/
def pack_Open.f (k : Nat) (l0 : List Int) : Option (List Int × Bool) := if (l0.length : Int) = 256 then ((pack_Get.f k l0 252 4).bind fun bt159 => (if 252 ≤ (l0.length : Int) then ((pack_Sum.f k (l0.take 252)).bind fun t162 => (if ((bt159.1) % 4294967296) = t162 then ((slices_Clone_byte_byte.f (l0.take 252)).bind fun t164 => (some (t164, true))) else (some (([] : List Int), false)))) else (none))) else (some (([] : List Int), false))
theorem pack_Open.mono : ∀ a0 k, LeO (pack_Open.f k a0) (pack_Open.f (k + 1) a0) := by
  intro a0 k
  unfold pack_Open.f
  repeat' first
      | (with_reducible exact pack_Get.mono _ _ _ _)
      | (with_reducible exact pack_Sum.mono _ _)
      | (with_reducible exact LeO.refl _)
      | (with_reducible exact LeO.none _)
      | (with_reducible refine LeO.ite ?_ ?_)
      | (with_reducible refine LeO.bind ?_ (fun _ => ?_))
      | exact pack_Get.mono _ _ _ _
      | exact pack_Sum.mono _ _
      | exact LeO.none _
      | refine LeO.ite ?_ ?_
      | refine LeO.bind ?_ (fun _ => ?_)
set_option maxHeartbeats 8000000 in
set_option maxRecDepth 100000 in
theorem pack_Open.calls (k : Nat) (A0 : Option Addr) (c0 : Nat) (l0 : List Int) (r1 : List Int) (r2 : Bool) (w : World) (hr0 : Kd.C (Kd.int .u8) w A0 l0.length l0) (hc0 : l0.length ≤ c0) (h : pack_Open.f k l0 = some (r1, r2)) :
    Calls Try.prog 36 #[.slice A0 l0.length c0] w fun e w' => ∃ v0_ : Value, e = .returned (.tuple #[v0_, .bool r2]) ∧ Kd.R (Kd.int .u8) 5 w' w.heap.size (fun _ => True) v0_ r1 ∧ Below w.heap.size w w' := by
  have HR0 := Aside0.mk hr0
  have HC0 := Aside0.mk hc0
  clear hr0 hc0
  have HB := Aside0.mk (Below.refl w.heap.size w)
  have H : (if (l0.length : Int) = 256 then ((pack_Get.f k l0 252 4).bind fun bt159 => (if 252 ≤ (l0.length : Int) then ((pack_Sum.f k (l0.take 252)).bind fun t162 => (if ((bt159.1) % 4294967296) = t162 then ((slices_Clone_byte_byte.f (l0.take 252)).bind fun t164 => (some (t164, true))) else (some (([] : List Int), false)))) else (none))) else (some (([] : List Int), false))) = some (r1, r2) := h
  clear h
  by_cases c2 : (l0.length : Int) = 256
  · rw [if_pos c2] at H
    have c2b0 : ((l0.length : Int) == 256) = true := beq_iff_eq.mpr c2
    have c2b1 : ((l0.length : Int) != 256) = false := bne_eq_false_iff_eq.mpr c2
    clear c2
    replace H := Option.bind_eq_some_iff.mp H
    obtain ⟨⟨t159, t160⟩, A30, H⟩ := H
    replace H : (if 252 ≤ (l0.length : Int) then ((pack_Sum.f k (l0.take 252)).bind fun t162 => (if ((t159) % 4294967296) = t162 then ((slices_Clone_byte_byte.f (l0.take 252)).bind fun t164 => (some (t164, true))) else (some (([] : List Int), false)))) else (none)) = some (r1, r2) := H
    have A3 := Aside0.mk A30
    clear A30
    by_cases c4 : 252 ≤ (l0.length : Int)
    · rw [if_pos c4] at H
      have c4b0 := eq_true c4
      have c4b1 : decide (252 ≤ (l0.length : Int)) = true := decide_eq_true c4
      clear c4
      replace H := Option.bind_eq_some_iff.mp H
      obtain ⟨t162, A50, H⟩ := H
      replace H : (if ((t159) % 4294967296) = t162 then ((slices_Clone_byte_byte.f (l0.take 252)).bind fun t164 => (some (t164, true))) else (some (([] : List Int), false))) = some (r1, r2) := H
      have A5 := Aside0.mk A50
      clear A50
      by_cases c6 : ((t159) % 4294967296) = t162
      · rw [if_pos c6] at H
        have c6b0 : (((t159) % 4294967296) == t162) = true := beq_iff_eq.mpr c6
        have c6b1 : (((t159) % 4294967296) != t162) = false := bne_eq_false_iff_eq.mpr c6
        clear c6
        have c7b0 := eq_true (of_decide_eq_true (by first | (with_reducible assumption) | assumption) : 252 ≤ (l0.length : Int))
        replace H := Option.bind_eq_some_iff.mp H
        obtain ⟨t164, A80, H⟩ := H
        replace H : (some (t164, true)) = some (r1, r2) := H
        have A8 := Aside0.mk A80
        clear A80
        simp only [Option.some.injEq, Prod.mk.injEq] at H
        obtain ⟨rfl, rfl⟩ := H
        go_enter Try.func36, Try.ntmps36
        go_wp2_with (first | ((with_reducible refine gate_callee (f := 31) rfl ?_); refine goesL_ (some 11) rfl rfl Try.func31 (by kernel_rfl) rfl #[.slice A0 l0.length c0, .int .i64 252, .int .i64 4] rfl (by (try simp only [List.map_toArray, List.map_cons, List.map_nil]); first | done | rfl | (simp only [List.length_drop, List.length_take]; rfl)) ?_; (with_reducible refine (pack_Get.calls k _ _ l0 252 4 t159 t160 _ ?side1 ?side2 A3.out).mono ?_); (case side1 => repeat (first | exact HR0.out | (with_reducible refine Kd.C_alloc ?_ _) | (with_reducible refine Kd.C_drewN ?_ _) | (with_reducible refine Kd.C_drew ?_))); (case side2 => exact HC0.out); rintro e w' ⟨rfl, ⟨nd, rfl⟩⟩; refine ⟨_, rfl, ?_⟩; obtain ⟨i09, hi09, _, hsz9, _⟩ := info_parts info5; obtain ⟨hcut9, hA9, hC9⟩ := print_take_of (P := Try.prog) (Value.int .u8) 0 28 5 .i64 Try.underlying28 hi09 hsz9 A0 c0 l0 252 (by omega) (of_decide_eq_true (by first | (with_reducible assumption) | assumption)) HC0.out; have HR161 := Aside0.mk (Kd.C_of_reads (h1 := fun _ => rfl) (hA9 _ (Kd.reads_of_C HR0.out))); have HC161 := Aside0.mk hC9; clear hA9 hC9 hi09 hsz9) | ((with_reducible refine gate_callee (f := 38) rfl ?_); refine goesL_ (some 18) rfl rfl Try.func38 (by kernel_rfl) rfl #[.slice A0 (l0.take 252).length c0] rfl (by (try simp only [List.map_toArray, List.map_cons, List.map_nil]); first | done | (rw [show (l0.take 252).length = 252 from (by rw [List.length_take]; have h_ : (252 : Int) ≤ (l0.length : Int) := of_decide_eq_true (by first | (with_reducible assumption) | assumption); omega)] <;> rfl) | rfl | (simp only [List.length_drop, List.length_take]; rfl)) ?_; (with_reducible refine (pack_Sum.calls k _ _ (l0.take 252) t162 _ ?side1 ?side2 A5.out).mono ?_); (case side1 => repeat (first | exact HR161.out | (with_reducible refine Kd.C_alloc ?_ _) | (with_reducible refine Kd.C_drewN ?_ _) | (with_reducible refine Kd.C_drew ?_))); (case side2 => exact HC161.out); rintro e w' ⟨rfl, ⟨nd, rfl⟩⟩; refine ⟨_, rfl, ?_⟩; obtain ⟨i010, hi010, _, hsz10, _⟩ := info_parts info5; obtain ⟨hcut10, hA10, hC10⟩ := print_take_of (P := Try.prog) (Value.int .u8) 0 28 5 .i64 Try.underlying28 hi010 hsz10 A0 c0 l0 252 (by omega) (of_decide_eq_true (by first | (with_reducible assumption) | assumption)) HC0.out; have HR163 := Aside0.mk (Kd.C_of_reads (h1 := fun _ => rfl) (hA10 _ (Kd.reads_of_C HR0.out))); have HC163 := Aside0.mk hC10; clear hA10 hC10 hi010 hsz10) | ((with_reducible refine gate_callee (f := 56) rfl ?_); refine goesL_ (some 22) rfl rfl Try.func56 (by kernel_rfl) rfl #[.slice A0 (l0.take 252).length c0] rfl (by (try simp only [List.map_toArray, List.map_cons, List.map_nil]); first | done | (rw [show (l0.take 252).length = 252 from (by rw [List.length_take]; have h_ : (252 : Int) ≤ (l0.length : Int) := of_decide_eq_true (by first | (with_reducible assumption) | assumption); omega)] <;> rfl) | rfl | (simp only [List.length_drop, List.length_take]; rfl)) ?_; (with_reducible refine (slices_Clone_byte_byte.calls _ _ (l0.take 252) t164 _ ?side1 ?side2 A8.out).mono ?_); (case side1 => repeat (first | exact HR163.out | (with_reducible refine Kd.C_alloc ?_ _) | (with_reducible refine Kd.C_drewN ?_ _) | (with_reducible refine Kd.C_drew ?_))); (case side2 => exact HC163.out); rintro e w11 ⟨v165, rfl, ho0, hb⟩; refine ⟨_, rfl, ?_⟩; have n0_ := Aside0.mk (Kd.R_lower ho0 (below_size (by repeat (first | (with_reducible first | exact HB.out | apply below_alloc | apply pw_below_drewN | apply below_drew1) | exact HB.out)))); have n1_ := Aside0.mk (below_step (by repeat (first | (with_reducible first | exact HB.out | apply below_alloc | apply pw_below_drewN | apply below_drew1) | exact HB.out)) hb); clear HB; have HO166 := n0_; have HB := n1_; clear n0_ n1_; (try clear hb); (try clear hb2); (try clear hk); (try clear hi); (try clear ho0)))
        go_ret2
        exact ⟨_, by first | rfl | (simp [errW_none, errW_some] <;> rfl) | (simp [*, errW_none, errW_some] <;> rfl), by (with_reducible repeat (first | apply Kd.R_alloc | apply Kd.R_drewN | apply Kd.R_drew)); exact HO166.out, by repeat (first | (with_reducible first | exact HB.out | apply below_alloc | apply pw_below_drewN | apply below_drew1) | exact HB.out)⟩
      · rw [if_neg c6] at H
        have c6b0 : (((t159) % 4294967296) == t162) = false := beq_eq_false_iff_ne.mpr c6
        have c6b1 : (((t159) % 4294967296) != t162) = true := bne_iff_ne.mpr c6
        simp only [Option.some.injEq, Prod.mk.injEq] at H
        obtain ⟨rfl, rfl⟩ := H
        go_enter Try.func36, Try.ntmps36
        go_wp2_with (first | ((with_reducible refine gate_callee (f := 31) rfl ?_); refine goesL_ (some 11) rfl rfl Try.func31 (by kernel_rfl) rfl #[.slice A0 l0.length c0, .int .i64 252, .int .i64 4] rfl (by (try simp only [List.map_toArray, List.map_cons, List.map_nil]); first | done | rfl | (simp only [List.length_drop, List.length_take]; rfl)) ?_; (with_reducible refine (pack_Get.calls k _ _ l0 252 4 t159 t160 _ ?side1 ?side2 A3.out).mono ?_); (case side1 => repeat (first | exact HR0.out | (with_reducible refine Kd.C_alloc ?_ _) | (with_reducible refine Kd.C_drewN ?_ _) | (with_reducible refine Kd.C_drew ?_))); (case side2 => exact HC0.out); rintro e w' ⟨rfl, ⟨nd, rfl⟩⟩; refine ⟨_, rfl, ?_⟩; obtain ⟨i012, hi012, _, hsz12, _⟩ := info_parts info5; obtain ⟨hcut12, hA12, hC12⟩ := print_take_of (P := Try.prog) (Value.int .u8) 0 28 5 .i64 Try.underlying28 hi012 hsz12 A0 c0 l0 252 (by omega) (of_decide_eq_true (by first | (with_reducible assumption) | assumption)) HC0.out; have HR161 := Aside0.mk (Kd.C_of_reads (h1 := fun _ => rfl) (hA12 _ (Kd.reads_of_C HR0.out))); have HC161 := Aside0.mk hC12; clear hA12 hC12 hi012 hsz12) | ((with_reducible refine gate_callee (f := 38) rfl ?_); refine goesL_ (some 18) rfl rfl Try.func38 (by kernel_rfl) rfl #[.slice A0 (l0.take 252).length c0] rfl (by (try simp only [List.map_toArray, List.map_cons, List.map_nil]); first | done | (rw [show (l0.take 252).length = 252 from (by rw [List.length_take]; have h_ : (252 : Int) ≤ (l0.length : Int) := of_decide_eq_true (by first | (with_reducible assumption) | assumption); omega)] <;> rfl) | rfl | (simp only [List.length_drop, List.length_take]; rfl)) ?_; (with_reducible refine (pack_Sum.calls k _ _ (l0.take 252) t162 _ ?side1 ?side2 A5.out).mono ?_); (case side1 => repeat (first | exact HR161.out | (with_reducible refine Kd.C_alloc ?_ _) | (with_reducible refine Kd.C_drewN ?_ _) | (with_reducible refine Kd.C_drew ?_))); (case side2 => exact HC161.out); rintro e w' ⟨rfl, ⟨nd, rfl⟩⟩; refine ⟨_, rfl, ?_⟩))
        go_ret2
        exact ⟨_, by first | rfl | (simp [errW_none, errW_some] <;> rfl) | (simp [*, errW_none, errW_some] <;> rfl), by first | exact Kd.R_nil _ _ _ _ _ | exact Kd.N_nil _ _ _ _ _ | exact Kd.V_nil _ _ _ _ _ | exact Kd.Q_nil _ _ _ _ _ | exact Kd.S_nil _ _ _ _ _, by repeat (first | (with_reducible first | exact HB.out | apply below_alloc | apply pw_below_drewN | apply below_drew1) | exact HB.out)⟩
    · rw [if_neg c4] at H
      exact absurd H (by simp)
  · rw [if_neg c2] at H
    have c2b0 : ((l0.length : Int) == 256) = false := beq_eq_false_iff_ne.mpr c2
    have c2b1 : ((l0.length : Int) != 256) = true := bne_iff_ne.mpr c2
    simp only [Option.some.injEq, Prod.mk.injEq] at H
    obtain ⟨rfl, rfl⟩ := H
    go_enter Try.func36, Try.ntmps36
    go_wp2
    go_ret2
    exact ⟨_, by first | rfl | (simp [errW_none, errW_some] <;> rfl) | (simp [*, errW_none, errW_some] <;> rfl), by first | exact Kd.R_nil _ _ _ _ _ | exact Kd.N_nil _ _ _ _ _ | exact Kd.V_nil _ _ _ _ _ | exact Kd.Q_nil _ _ _ _ _ | exact Kd.S_nil _ _ _ _ _, by repeat (first | (with_reducible first | exact HB.out | apply below_alloc | apply pw_below_drewN | apply below_drew1) | exact HB.out)⟩

/-! ### ashlarref01_Get: function 32 -/
mutual
def ashlarref01_Get.j0 : Nat → List Int → Int → Int → Bool → Option (Int × Bool)
  | 0, _, _, _, _ => none
  | k + 1, x0, x1, x2, x33 => if x33 = true then (some (0, false)) else (ashlarref01_Get.l0 k x0 x1 0 x2 0)
def ashlarref01_Get.l0 : Nat → List Int → Int → Int → Int → Int → Option (Int × Bool)
  | 0, _, _, _, _, _ => none
  | k + 1, x0, x1, x8, x34, x35 => if x35 < x34 then (if 0 ≤ (wrap64 (x1 + x35)) then (if (wrap64 (x1 + x35)) < (x0.length : Int) then (if 0 ≤ (wrap64 (8 * x35)) then (ashlarref01_Get.l0 k x0 x1 (Go.bits .or .u64 x8 (shl .u64 (IntKind.u64.wrap (rd x0 (wrap64 (x1 + x35)))) (wrap64 (8 * x35)))) x34 (wrap64 (x35 + 1))) else (none)) else (none)) else (none)) else (some (x8, true))
end
def ashlarref01_Get.f (k : Nat) (l0 : List Int) (a1 : Int) (a2 : Int) : Option (Int × Bool) := if a2 < 1 then (ashlarref01_Get.j0 k l0 a1 a2 true) else (if a2 > 8 then (ashlarref01_Get.j0 k l0 a1 a2 true) else (if a1 < 0 then (ashlarref01_Get.j0 k l0 a1 a2 true) else (if a1 > (l0.length : Int) then (ashlarref01_Get.j0 k l0 a1 a2 true) else (ashlarref01_Get.j0 k l0 a1 a2 (decide (a2 > (wrap64 ((l0.length : Int) - a1))))))))
theorem ashlarref01_Get.mono_l : ∀ k, (∀ y0 y1 y2 y3, LeO (ashlarref01_Get.j0 k y0 y1 y2 y3) (ashlarref01_Get.j0 (k + 1) y0 y1 y2 y3)) ∧ (∀ y0 y1 y2 y3 y4, LeO (ashlarref01_Get.l0 k y0 y1 y2 y3 y4) (ashlarref01_Get.l0 (k + 1) y0 y1 y2 y3 y4))
  | 0 => ⟨fun _ _ _ _ r h => by simp [ashlarref01_Get.j0] at h, fun _ _ _ _ _ r h => by simp [ashlarref01_Get.l0] at h⟩
  | k + 1 => by
    obtain ⟨ih0, ih1⟩ := ashlarref01_Get.mono_l k
    refine ⟨?_, ?_⟩
    · intro y0 y1 y2 y3
      unfold ashlarref01_Get.j0
      repeat' first
      | (with_reducible exact ih0 _ _ _ _)
      | (with_reducible exact ih1 _ _ _ _ _)
      | (with_reducible exact LeO.refl _)
      | (with_reducible exact LeO.none _)
      | (with_reducible refine LeO.ite ?_ ?_)
      | (with_reducible refine LeO.bind ?_ (fun _ => ?_))
      | exact ih0 _ _ _ _
      | exact ih1 _ _ _ _ _
      | exact LeO.none _
      | refine LeO.ite ?_ ?_
      | refine LeO.bind ?_ (fun _ => ?_)
    · intro y0 y1 y2 y3 y4
      unfold ashlarref01_Get.l0
      repeat' first
      | (with_reducible exact ih0 _ _ _ _)
      | (with_reducible exact ih1 _ _ _ _ _)
      | (with_reducible exact LeO.refl _)
      | (with_reducible exact LeO.none _)
      | (with_reducible refine LeO.ite ?_ ?_)
      | (with_reducible refine LeO.bind ?_ (fun _ => ?_))
      | exact ih0 _ _ _ _
      | exact ih1 _ _ _ _ _
      | exact LeO.none _
      | refine LeO.ite ?_ ?_
      | refine LeO.bind ?_ (fun _ => ?_)
theorem ashlarref01_Get.mono : ∀ a0 a1 a2 k, LeO (ashlarref01_Get.f k a0 a1 a2) (ashlarref01_Get.f (k + 1) a0 a1 a2) := by
  intro a0 a1 a2 k
  obtain ⟨ih0, ih1⟩ := ashlarref01_Get.mono_l k
  unfold ashlarref01_Get.f
  repeat' first
      | (with_reducible exact ih0 _ _ _ _)
      | (with_reducible exact ih1 _ _ _ _ _)
      | (with_reducible exact LeO.refl _)
      | (with_reducible exact LeO.none _)
      | (with_reducible refine LeO.ite ?_ ?_)
      | (with_reducible refine LeO.bind ?_ (fun _ => ?_))
      | exact ih0 _ _ _ _
      | exact ih1 _ _ _ _ _
      | exact LeO.none _
      | refine LeO.ite ?_ ?_
      | refine LeO.bind ?_ (fun _ => ?_)
set_option maxHeartbeats 8000000 in
set_option maxRecDepth 100000 in
theorem ashlarref01_Get.calls (k : Nat) (A0 : Option Addr) (c0 : Nat) (l0 : List Int) (a1 : Int) (a2 : Int) (r1 : Int) (r2 : Bool) (w : World) (hr0 : Kd.C (Kd.int .u8) w A0 l0.length l0) (hc0 : l0.length ≤ c0) (h : ashlarref01_Get.f k l0 a1 a2 = some (r1, r2)) :
    Calls Try.prog 32 #[.slice A0 l0.length c0, .int .i64 a1, .int .i64 a2] w fun e w' => e = .returned (.tuple #[.int .u64 r1, .bool r2]) ∧ Drawn0 w w' := by
  have HR0 := Aside0.mk hr0
  have HC0 := Aside0.mk hc0
  clear hr0 hc0
  have H : (if a2 < 1 then (ashlarref01_Get.j0 k l0 a1 a2 true) else (if a2 > 8 then (ashlarref01_Get.j0 k l0 a1 a2 true) else (if a1 < 0 then (ashlarref01_Get.j0 k l0 a1 a2 true) else (if a1 > (l0.length : Int) then (ashlarref01_Get.j0 k l0 a1 a2 true) else (ashlarref01_Get.j0 k l0 a1 a2 (decide (a2 > (wrap64 ((l0.length : Int) - a1))))))))) = some (r1, r2) := h
  clear h
  have HC4 := Aside0.mk H
  clear H
  go_enter Try.func32, Try.ntmps32
  go_upto_region 1 with (fail)
  go_cut [33] (fun v33 wc => ∃ (kq : Nat) (x33_3 : Bool), v33 = .bool x33_3 ∧ Aside0 (ashlarref01_Get.j0 kq l0 a1 a2 x33_3 = some (r1, r2)) ∧ Aside0 (kq ≤ k) ∧ Drawn0 w wc)
  case first =>
    have H := HC4.out
    clear HC4
    by_cases c5 : a2 < 1
    · rw [if_pos c5] at H
      have c5b0 : decide (a2 < 1) = true := decide_eq_true c5
      clear c5
      (first | rw [c5b0] | (simp only [i64_w, i32_w]; rw [c5b0]) | skip)
      have H' := Aside0.mk H
      clear H
      go_wp2
      go_meet
      case rel => exact ⟨_, (true), (by first | rfl | (simp; done) | (simp [*]; done)), H', ⟨by first | omega | exact Nat.le_refl _⟩, by repeat (first | exact Drawn0.refl _ | apply Drawn0.step)⟩
    · rw [if_neg c5] at H
      have c5b0 : decide (a2 < 1) = false := decide_eq_false c5
      clear c5
      (first | rw [c5b0] | (simp only [i64_w, i32_w]; rw [c5b0]) | skip)
      by_cases c6 : a2 > 8
      · rw [if_pos c6] at H
        have c6b0 : decide (8 < a2) = true := decide_eq_true c6
        clear c6
        have H' := Aside0.mk H
        clear H
        go_wp2
        go_meet
        case rel => exact ⟨_, (true), (by first | rfl | (simp; done) | (simp [*]; done)), H', ⟨by first | omega | exact Nat.le_refl _⟩, by repeat (first | exact Drawn0.refl _ | apply Drawn0.step)⟩
      · rw [if_neg c6] at H
        have c6b0 : decide (8 < a2) = false := decide_eq_false c6
        clear c6
        by_cases c7 : a1 < 0
        · rw [if_pos c7] at H
          have c7b0 : decide (a1 < 0) = true := decide_eq_true c7
          clear c7
          have H' := Aside0.mk H
          clear H
          go_wp2
          go_meet
          case rel => exact ⟨_, (true), (by first | rfl | (simp; done) | (simp [*]; done)), H', ⟨by first | omega | exact Nat.le_refl _⟩, by repeat (first | exact Drawn0.refl _ | apply Drawn0.step)⟩
        · rw [if_neg c7] at H
          have c7b0 : decide (a1 < 0) = false := decide_eq_false c7
          clear c7
          by_cases c8 : a1 > (l0.length : Int)
          · rw [if_pos c8] at H
            have c8b0 : decide ((l0.length : Int) < a1) = true := decide_eq_true c8
            clear c8
            have H' := Aside0.mk H
            clear H
            go_wp2
            go_meet
            case rel => exact ⟨_, (true), (by first | rfl | (simp; done) | (simp [*]; done)), H', ⟨by first | omega | exact Nat.le_refl _⟩, by repeat (first | exact Drawn0.refl _ | apply Drawn0.step)⟩
          · rw [if_neg c8] at H
            have c8b0 : decide ((l0.length : Int) < a1) = false := decide_eq_false c8
            clear c8
            have H' := Aside0.mk H
            clear H
            go_wp2
            go_meet
            case rel => exact ⟨_, (decide (a2 > (wrap64 ((l0.length : Int) - a1)))), (by first | rfl | (simp; done) | (simp [*]; done)), H', ⟨by first | omega | exact Nat.le_refl _⟩, by repeat (first | exact Drawn0.refl _ | apply Drawn0.step)⟩
  case rest =>
    clear HC4
    try clear p2
    try clear c3
    try clear c5
    try clear c5b0
    try clear c6
    try clear c6b0
    try clear p6
    try clear c7
    try clear c7b0
    try clear c8
    try clear c8b0
    obtain ⟨kq, x33_3, rfl, HA, HJ3, ⟨mc3, rfl⟩⟩ := hcut
    cases kq with
    | zero => exact absurd HA.out (by simp [ashlarref01_Get.j0])
    | succ kj3 =>
      have H := HA.out
      clear HA
      simp only [ashlarref01_Get.j0] at H
      by_cases c9 : x33_3 = true
      · subst c9
        have H1 : (some (0, false)) = some (r1, r2) := by rw [if_pos rfl] at H; exact H
        clear H
        have H := H1
        clear H1
        simp only [Option.some.injEq, Prod.mk.injEq] at H
        obtain ⟨rfl, rfl⟩ := H
        go_wp2
        go_ret2
        exact ⟨by first | rfl | (simp; done) | (simp [*]; done), by repeat (first | exact Drawn0.refl _ | apply Drawn0.step)⟩
      · replace c9 := Bool.eq_false_iff.mpr c9
        subst c9
        have H1 : (ashlarref01_Get.l0 kj3 l0 a1 0 a2 0) = some (r1, r2) := by rw [if_neg (show ¬ (false = true) by decide)] at H; exact H
        clear H
        have H := H1
        clear H1
        have H' := Aside0.mk H
        clear H
        go_wp2
        go_loopg [8, 35] kj3 (fun kq v8 v35 w' => ∃ (x8_2 : Int) (x35_2 : Int), v8 = .int .u64 x8_2 ∧ v35 = .int .i64 x35_2 ∧ Aside0 (ashlarref01_Get.l0 kq l0 a1 x8_2 a2 x35_2 = some (r1, r2)) ∧ Aside0 (kq ≤ kj3) ∧ Drawn0 w w')
        case atStart => exact ⟨(0), (0), (by first | rfl | (simp; done) | (simp [*]; done)), (by first | rfl | (simp; done) | (simp [*]; done)), H', ⟨Nat.le_refl _⟩, by repeat (first | exact Drawn0.refl _ | apply Drawn0.step)⟩
        case round =>
          clear H'
          try clear p2
          try clear c3
          try clear c5
          try clear c5b0
          try clear c6
          try clear c6b0
          try clear p6
          try clear c7
          try clear c7b0
          try clear c8
          try clear c8b0
          try clear c9
          try clear p2
          try clear p6
          obtain ⟨x8_2, x35_2, rfl, rfl, HA, HK2, ⟨m2, rfl⟩⟩ := hrel
          cases gk with
          | zero => exact absurd HA.out (by simp [ashlarref01_Get.l0])
          | succ k2 =>
            have H := HA.out
            clear HA
            simp only [ashlarref01_Get.l0] at H
            by_cases c10 : x35_2 < a2
            · rw [if_pos c10] at H
              have c10b0 : decide (x35_2 < a2) = true := decide_eq_true c10
              clear c10
              obtain ⟨ji11, hji11⟩ : ∃ j_ : Int, (wrap64 (a1 + x35_2)) = j_ := ⟨_, rfl⟩
              replace H : (if 0 ≤ (ji11) then (if (ji11) < (l0.length : Int) then (if 0 ≤ (wrap64 (8 * x35_2)) then (ashlarref01_Get.l0 k2 l0 a1 (Go.bits .or .u64 x8_2 (shl .u64 (IntKind.u64.wrap (rd l0 (ji11))) (wrap64 (8 * x35_2)))) a2 (wrap64 (x35_2 + 1))) else (none)) else (none)) else (none)) = some (r1, r2) := by first | (rw [hji11] at H; exact H) | (simp only [hji11] at H ⊢; exact H)
              have hji11w : (IntKind.i64.wrap (a1 + x35_2)) = ji11 := (i64_w _).trans hji11
              by_cases c12 : 0 ≤ (ji11)
              · rw [if_pos c12] at H
                have c12b0 : decide (0 ≤ (ji11)) = true := decide_eq_true c12
                clear c12
                by_cases c13 : (ji11) < (l0.length : Int)
                · rw [if_pos c13] at H
                  have c13b0 : decide ((ji11) < (l0.length : Int)) = true := decide_eq_true c13
                  clear c13
                  obtain ⟨ji14, hji14⟩ : ∃ j_ : Int, (wrap64 (8 * x35_2)) = j_ := ⟨_, rfl⟩
                  replace H : (if 0 ≤ (ji14) then (ashlarref01_Get.l0 k2 l0 a1 (Go.bits .or .u64 x8_2 (shl .u64 (IntKind.u64.wrap (rd l0 (ji11))) (ji14))) a2 (wrap64 (x35_2 + 1))) else (none)) = some (r1, r2) := by first | (rw [hji14] at H; exact H) | (simp only [hji14] at H ⊢; exact H)
                  have hji14w : (IntKind.i64.wrap (8 * x35_2)) = ji14 := (i64_w _).trans hji14
                  by_cases c15 : 0 ≤ (ji14)
                  · rw [if_pos c15] at H
                    have c15b0 := eq_true c15
                    have c15b1 : decide (0 ≤ (ji14)) = true := decide_eq_true c15
                    clear c15
                    obtain ⟨ji16, hji16⟩ : ∃ j_ : Int, (shl .u64 (IntKind.u64.wrap (rd l0 (ji11))) (ji14)) = j_ := ⟨_, rfl⟩
                    replace H : (ashlarref01_Get.l0 k2 l0 a1 (Go.bits .or .u64 x8_2 (ji16)) a2 (wrap64 (x35_2 + 1))) = some (r1, r2) := by first | (rw [hji16] at H; exact H) | (simp only [hji16] at H ⊢; exact H)
                    have hji16_ : (IntKind.u64.wrap ((IntKind.u64.wrap (rd l0 (ji11))) * 2 ^ min (ji14).toNat 64)) = ji16 := hji16
                    have hji16z : (ji14) ≤ 64 → (IntKind.u64.wrap ((IntKind.u64.wrap (rd l0 (ji11))) * 2 ^ (ji14).toNat)) = ji16 := shl_small hji16
                    have H' := Aside0.mk H
                    clear H
                    have p167 : 0 ≤ ((ji11) : Int) := of_decide_eq_true (by first | (with_reducible assumption) | assumption)
                    have q167 : (ji11) < (l0.length : Int) := of_decide_eq_true (by first | (with_reducible assumption) | assumption)
                    obtain ⟨ad167, e167, hx167_0⟩ := Kd.at_int HR0.out (ji11) p167 q167
                    cases e167
                    replace p167 := eq_true p167
                    replace q167 := eq_true q167
                    go_wp2
                    go_roundg k2
                    case measure => have := HJ3.out; have := HK2.out; omega
                    case rel => exact ⟨(Go.bits .or .u64 x8_2 (ji16)), (wrap64 (x35_2 + 1)), (by first | rfl | (simp; done) | (simp only [← hji16] <;> (first | rfl | simp)) | (simp [*]; done)), (by first | rfl | (simp; done) | (simp [*]; done)), H', ⟨by have := HJ3.out; have := HK2.out; omega⟩, by repeat (first | exact Drawn0.refl _ | apply Drawn0.step)⟩
                  · rw [if_neg c15] at H
                    exact absurd H (by simp)
                · rw [if_neg c13] at H
                  exact absurd H (by simp)
              · rw [if_neg c12] at H
                exact absurd H (by simp)
            · rw [if_neg c10] at H
              have c10b0 : decide (x35_2 < a2) = false := decide_eq_false c10
              clear c10
              simp only [Option.some.injEq, Prod.mk.injEq] at H
              obtain ⟨rfl, rfl⟩ := H
              go_wp2
              go_ret2
              exact ⟨by first | rfl | (simp; done) | (simp [*]; done), by repeat (first | exact Drawn0.refl _ | apply Drawn0.step)⟩

/-! ### ashlarref01_Open: function 37, by hand -/
def ashlarref01_Open.f (k : Nat) (l0 : List Int) : Option (List Int × Bool) := if l0.length = 256 then (ashlarref01_Get.f k l0 252 4).bind fun g => (ashlarref01_Sum.f k (l0.take 252)).bind fun s => (if g.1 % 4294967296 = s then some (l0.take 252, true) else some ([], false)) else some ([], false)
set_option maxHeartbeats 800000 in
set_option maxRecDepth 100000 in
theorem ashlarref01_Open.calls (k : Nat) (A0 : Option Addr) (c0 : Nat) (l0 : List Int) (r1 : List Int) (r2 : Bool) (w : World) (hr0 : Kd.C (Kd.int .u8) w A0 l0.length l0) (hc0 : l0.length ≤ c0) (h : ashlarref01_Open.f k l0 = some (r1, r2)) :
    Calls Try.prog 37 #[.slice A0 l0.length c0] w fun e w' => ∃ v0_ : Value, e = .returned (.tuple #[v0_, .bool r2]) ∧ Kd.R (Kd.int .u8) 5 w' w.heap.size (fun _ => True) v0_ r1 ∧ Below w.heap.size w w' := by
  have HR := Aside0.mk hr0
  have HC := Aside0.mk hc0
  unfold ashlarref01_Open.f at h
  by_cases hl : l0.length = 256
  · rw [if_pos hl] at h
    obtain ⟨⟨g1, g2⟩, hg, h⟩ := Option.bind_eq_some_iff.1 h
    obtain ⟨s, hs, h⟩ := Option.bind_eq_some_iff.1 h
    obtain ⟨t, ht⟩ : ∃ t, t = l0.take 252 := ⟨_, rfl⟩
    rw [← ht] at hs h
    have htl : t.length = 252 := by rw [ht, List.length_take]; omega
    have hcut : ∀ W : World, (Instr.slice 28 (.slice A0 l0.length c0) none (some (.int .i64 252)) none).run Try.prog W = .ok (.slice A0 t.length c0) W := by
      intro W
      rw [cut_to (P := Try.prog) 28 5 .i64 Try.underlying28 rfl A0 l0.length c0 252 (by omega) (by omega) hc0 W, htl]
      rfl
    have htr : ∀ W : World, Below w.heap.size w W → Kd.C (Kd.int .u8) W A0 t.length t := by
      intro W hb
      rw [ht]
      exact Kd.C_take (Kd.C_below hr0 hb) (by omega)
    have hneq : ((l0.length : Int) != 256) = false := by rw [hl]; rfl
    have HT := Aside0.mk htr
    have HTL := Aside0.mk htl
    have HG := Aside0.mk hg
    have HS := Aside0.mk hs
    have H := Aside0.mk h
    clear h ht htr htl hr0 hc0 hl hg hs
    by_cases he : g1 % 4294967296 = s
    · have hb1 : (g1 % 4294967296 != s) = false := bne_eq_false_iff_eq.2 he
      obtain ⟨rfl, rfl⟩ : t = r1 ∧ true = r2 := by have h := H.out; simp only at h; rw [if_pos he] at h; simpa using h
      clear he H
      go_enter Try.func37, Try.ntmps37
      go_wp2_with (first
        | (go_at_call 32; go_must (refine (ashlarref01_Get.calls k _ _ l0 252 4 g1 g2 _ HR.out HC.out HG.out).mono ?_); rintro e w1 ⟨rfl, hd⟩; have HB1 := Aside0.mk hd.below; clear hd)
        | (go_at_call 39; go_must (refine (ashlarref01_Sum.calls k _ _ t s _ (HT.out _ HB1.out) (by have := HTL.out; have := Kd.C_len (HT.out _ HB1.out); have := HC.out; have : ((l0.length : Int) != 256) = false := hneq; simp at this; omega) HS.out).mono ?_); rintro e w2 ⟨rfl, hd⟩; have HB2 := Aside0.mk (below_step HB1.out hd.below); clear hd)
        | ((with_reducible refine gate_dst (N := 20) rfl ?_); refine Kd.R_lit (Kd.int .u8) _ 5 ?hg (N := 20) ?hd (xs := ([] : List Int)) (inner := []) (ok := fun _ => True) (okp := fun _ => True) ?hr ?hp (fun _ hk => hk) trivial (Below.refl _ _) (Nat.le_refl _) (by simp) ?_; (case hd => rfl); (case hg => rfl); (case hr => first | (go_simp; done) | (go_simp; rfl)); (case hp => exact (Reps.none _ _)); intro v1 w3 ho1 hb1 _ _; have HO3 := Aside0.mk ho1; have HB3 := Aside0.mk hb1; clear ho1 hb1)
        | ((with_reducible refine gate_builtin (b := .append) (xs := #[.tmp 20, .tmp 22]) rfl ?_); go_must (refine Kd.R_append_rows (Kd.int .u8) (w0 := w) w.heap.size rfl (.tmp 20) (.tmp 22) 28 5 (.int .u8 0) 1 rfl Try.underlying28 info5 rfl (by decide) (by omega) _ [] t _ _ _ (fun _ => True) (fun _ => False) rfl rfl (Kd.R_lower HO3.out HB2.out.size) (HT.out _ (below_step HB2.out HB3.out)) (fun _ _ h => h) (fun _ h => h.elim) (fun _ _ => trivial) (below_step HB2.out HB3.out) (below_step HB2.out HB3.out).size (by have := HTL.out; simp; omega) ?_); intro v2 w4 ho2 hb2 _ _; have HO4 := Aside0.mk ho2; have HB4 := Aside0.mk hb2; clear ho2 hb2))
      go_ret2
      exact ⟨_, rfl, HO4.out, HB4.out⟩
    · have hb1 : (g1 % 4294967296 != s) = true := bne_iff_ne.2 he
      obtain ⟨rfl, rfl⟩ : [] = r1 ∧ false = r2 := by have h := H.out; simp only at h; rw [if_neg he] at h; simpa using h
      clear he H
      go_enter Try.func37, Try.ntmps37
      go_wp2_with (first
        | (go_at_call 32; go_must (refine (ashlarref01_Get.calls k _ _ l0 252 4 g1 g2 _ HR.out HC.out HG.out).mono ?_); rintro e w1 ⟨rfl, hd⟩; have HB1 := Aside0.mk hd.below; clear hd)
        | (go_at_call 39; go_must (refine (ashlarref01_Sum.calls k _ _ t s _ (HT.out _ HB1.out) (by have := HTL.out; have := Kd.C_len (HT.out _ HB1.out); have := HC.out; have : ((l0.length : Int) != 256) = false := hneq; simp at this; omega) HS.out).mono ?_); rintro e w2 ⟨rfl, hd⟩; have HB2 := Aside0.mk (below_step HB1.out hd.below); clear hd))
      go_ret2
      exact ⟨_, rfl, Kd.R_nil _ _ _ _ _, HB2.out⟩
  · rw [if_neg hl] at h
    obtain ⟨rfl, rfl⟩ : [] = r1 ∧ false = r2 := by simpa using h
    have hneq : ((l0.length : Int) != 256) = true := by rw [bne_iff_ne]; omega
    clear h hl hr0 hc0
    go_enter Try.func37, Try.ntmps37
    go_wp2_with fail
    go_ret2
    exact ⟨_, rfl, Kd.R_nil _ _ _ _ _, Below.refl _ _⟩


/-! ### ashlarlaw02_PackSeals: function 6, by hand -/
set_option linter.unusedSimpArgs false
set_option maxHeartbeats 2000000 in
set_option maxRecDepth 100000 in
theorem ashlarlaw02_PackSeals.one (k : Nat) (A0 A1 : Option Addr) (c0 c1 : Nat) (l0 l1 x u : List Int) (e_ s : Int) (ok : Bool) (w : World) (hr0 : Kd.C (Kd.int .u8) w A0 l0.length l0) (hc0 : l0.length ≤ c0) (hr1 : Kd.C (Kd.int .u8) w A1 l1.length l1) (hc1 : l1.length ≤ c1)
    (h1 : ashlarlaw02_awake.f k = some true) (h2 : pack_Seal.f k l0 = some (x, e_)) (h3 : ashlarref01_Seal.f k l0 = some (x, e_)) (h4 : pack_Open.f k l1 = some (u, ok)) (h5 : ashlarref01_Open.f k l1 = some (u, ok))
    (h6 : pack_Sum.f k l0 = some s) (h7 : ashlarref01_Sum.f k l0 = some s) :
    Calls Try.prog 6 #[.slice A0 l0.length c0, .slice A1 l1.length c1] w fun e w' => e = .returned (.bool true) ∧ Below w.heap.size w w' := by
  have HR := Aside0.mk hr0
  have HC := Aside0.mk hc0
  have HR1 := Aside0.mk hr1
  have HC1 := Aside0.mk hc1
  have H1 := Aside0.mk h1
  have H2 := Aside0.mk h2
  have H3 := Aside0.mk h3
  have H4 := Aside0.mk h4
  have H5 := Aside0.mk h5
  have H6 := Aside0.mk h6
  have H7 := Aside0.mk h7
  clear hr0 hc0 hr1 hc1 h1 h2 h3 h4 h5 h6 h7
  have q1 : (e_ == e_) = true := by simp
  have q2 : (ok == ok) = true := by simp
  have q3 : (s == s) = true := by simp
  have q4 : ((strOfNums x).toList == (strOfNums x).toList) = true := by simp
  have q5 : ((strOfNums u).toList == (strOfNums u).toList) = true := by simp
  go_enter Try.func6, Try.ntmps6
  go_upto_region 7 with (first
    | (go_at_call 29; go_must (refine (ashlarlaw02_awake.calls k true _ H1.out).mono ?_); rintro e w1 ⟨rfl, hb⟩; have HB1 := Aside0.mk hb; clear hb)
    | (go_at_call 34; go_must (refine (pack_Seal.calls k _ _ _ l0 x e_ _ (Kd.V_mk HC.out (Kd.C_F (Kd.heap_int .u8) (Kd.C_below HR.out HB1.out))) H2.out).mono ?_); rintro e w2 ⟨v1, rfl, ho, hb⟩; obtain ⟨A2, c2, rfl⟩ := Kd.R_slice ho; have HO2 := Aside0.mk ho; have HB2 := Aside0.mk (below_step HB1.out hb); clear ho hb)
    | (go_at_call 35; go_must (refine (ashlarref01_Seal.calls k _ _ l0 x e_ _ (Kd.C_below HR.out HB2.out) HC.out H3.out).mono ?_); rintro e w3 ⟨v1, rfl, ho, hb⟩; obtain ⟨A3, c3, rfl⟩ := Kd.R_slice ho; have HO3 := Aside0.mk ho; have HP3 := Aside0.mk (Kd.R_below HO2.out hb); have HB3 := Aside0.mk (below_step HB2.out hb); clear ho hb)
    | (go_at_call 36; go_must (refine (pack_Open.calls k _ _ l1 u ok _ (Kd.C_below HR1.out HB3.out) HC1.out H4.out).mono ?_); rintro e w4 ⟨v1, rfl, ho, hb⟩; obtain ⟨A4, c4, rfl⟩ := Kd.R_slice ho; have HO4 := Aside0.mk ho; have HP4 := Aside0.mk (Kd.R_below HP3.out hb); have HQ4 := Aside0.mk (Kd.R_below HO3.out hb); have HB4 := Aside0.mk (below_step HB3.out hb); clear ho hb)
    | (go_at_call 37; go_must (refine (ashlarref01_Open.calls k _ _ l1 u ok _ (Kd.C_below HR1.out HB4.out) HC1.out H5.out).mono ?_); rintro e w5 ⟨v1, rfl, ho, hb⟩; obtain ⟨A5, c5, rfl⟩ := Kd.R_slice ho; have HO5 := Aside0.mk ho; have HP5 := Aside0.mk (Kd.R_below HP4.out hb); have HQ5 := Aside0.mk (Kd.R_below HQ4.out hb); have HS5 := Aside0.mk (Kd.R_below HO4.out hb); have HB5 := Aside0.mk (below_step HB4.out hb); clear ho hb))
  have k1 := own_string (P := Try.prog) Try.underlying28 Try.underlying5 Try.underlying9 (Kd.own_of_R HP5.out)
  have k2 := own_string (P := Try.prog) Try.underlying28 Try.underlying5 Try.underlying9 (Kd.own_of_R HQ5.out)
  have k3 := own_string (P := Try.prog) Try.underlying28 Try.underlying5 Try.underlying9 (Kd.own_of_R HS5.out)
  have k4 := own_string (P := Try.prog) Try.underlying28 Try.underlying5 Try.underlying9 (Kd.own_of_R HO5.out)
  go_wp2_with (first
    | (go_at_call 38; go_must (refine (pack_Sum.calls k _ _ l0 s _ (Kd.C_below HR.out HB5.out) HC.out H6.out).mono ?_); rintro e w6 ⟨rfl, hd⟩; have HB6 := Aside0.mk (below_step HB5.out hd.below); clear hd)
    | (go_at_call 39; go_must (refine (ashlarref01_Sum.calls k _ _ l0 s _ (Kd.C_below HR.out HB6.out) HC.out H7.out).mono ?_); rintro e w7 ⟨rfl, hd⟩; have HB7 := Aside0.mk (below_step HB6.out hd.below); clear hd))
  go_ret
  exact ⟨by simp, HB7.out⟩
/-- What is left, over numbers and lists. -/
def ashlarlaw02_PackSeals.Pure : Prop := ∀ (l0 l1 : List Int), l0.length ≤ maxLen → l0.length * 1 ≤ 140737488351232 → (∀ x ∈ l0, (Lit.int .u8 x).wf = true) → l1.length ≤ maxLen → l1.length * 1 ≤ 140737488351232 → (∀ x ∈ l1, (Lit.int .u8 x).wf = true) →
    ∃ (k : Nat) (x u : List Int) (e_ s : Int) (ok : Bool), ashlarlaw02_awake.f k = some true ∧ pack_Seal.f k l0 = some (x, e_) ∧ ashlarref01_Seal.f k l0 = some (x, e_) ∧ pack_Open.f k l1 = some (u, ok) ∧ ashlarref01_Open.f k l1 = some (u, ok) ∧ pack_Sum.f k l0 = some s ∧ ashlarref01_Sum.f k l0 = some s
theorem ashlarlaw02_PackSeals.walk (P : ashlarlaw02_PackSeals.Pure) (a0 : Option Addr) (len0 cap0 : Nat) (z0 : List Int) (a1 : Option Addr) (len1 cap1 : Nat) (z1 : List Int) (w : World) (w0 : (a0 = none ∧ len0 = 0 ∧ cap0 = 0 ∧ z0 = []) ∨ ∃ x, a0 = some x ∧ len0 ≤ cap0 ∧ cap0 ≤ maxLen ∧ z0.length = cap0 ∧ (∀ i, i < z0.length → w.cell? (x.add i) = some (.int .u8 (z0.getD i 0))) ∧ ∀ n ∈ z0, (Lit.int .u8 n).wf = true) (y0 : len0 * 1 ≤ 140737488351232)
    (w1 : (a1 = none ∧ len1 = 0 ∧ cap1 = 0 ∧ z1 = []) ∨ ∃ x, a1 = some x ∧ len1 ≤ cap1 ∧ cap1 ≤ maxLen ∧ z1.length = cap1 ∧ (∀ i, i < z1.length → w.cell? (x.add i) = some (.int .u8 (z1.getD i 0))) ∧ ∀ n ∈ z1, (Lit.int .u8 n).wf = true) (y1 : len1 * 1 ≤ 140737488351232) :
    Calls Try.prog 6 #[.slice a0 len0 cap0, .slice a1 len1 cap1] w fun e w' => e = .returned (.bool true) ∧ Below w.heap.size w w' := by
  obtain ⟨l0, rfl, hr0, hm0, hw0, hc0⟩ := ReadsInt.ofRowC w0
  obtain ⟨l1, rfl, hr1, hm1, hw1, hc1⟩ := ReadsInt.ofRowC w1
  obtain ⟨k, x, u, e_, s, ok, h1, h2, h3, h4, h5, h6, h7⟩ := P l0 l1 hm0 y0 hw0 hm1 y1 hw1
  exact ashlarlaw02_PackSeals.one k _ _ _ _ l0 l1 x u e_ s ok w (Kd.C_of_reads (d := (0 : Int)) (h1 := fun _ => rfl) hr0) hc0 (Kd.C_of_reads (d := (0 : Int)) (h1 := fun _ => rfl) hr1) hc1 h1 h2 h3 h4 h5 h6 h7


end Go.Proofs.Ytpcdfmfmakahkaa.PPackSeals
