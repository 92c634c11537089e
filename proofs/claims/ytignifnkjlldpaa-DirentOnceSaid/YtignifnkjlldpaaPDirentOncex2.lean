/- Written by a program of this session (xprint.py) out of the translation. What is proved, in the end: the Go law DirentOnce answers true at every input, and its arguments read behind the call as before; no condition. -/
import Derived.Test.YtignifnkjlldpaaPDirentOncex0
import Derived.Test.YtignifnkjlldpaaPDirentOncex1
namespace Go.Proofs.Ytignifnkjlldpaa.PDirentOnce
open Go.RowKit Go.Proofs.YtignifnkjlldpaaW.PrintWords Go.Proofs.YtignifnkjlldpaaW.PrintLast Go.Proofs.YtignifnkjlldpaaW.PrintMore
attribute [local go_sem] max2_int min2_int max_two min_two max_three min_three max_four min_four   -- for this text's walks alone
set_option linter.unusedVariables false
set_option linter.unusedSimpArgs false

/-! ### ashlarlaw08_Theirs: function 31 -/
def ashlarlaw08_Theirs.l0 : Nat → List (S60) → List (S59) → Int → Int → Option ((List (S59)))
  | 0, _, _, _, _ => none
  | k + 1, x0, x3, x6, x7 => if x7 < x6 then (if 0 ≤ x7 then (if x7 < (x0.length : Int) then (if x3.length < 5864062014805 then (ashlarlaw08_Theirs.l0 k x0 (x3 ++ [(⟨(rd_T60 x0 x7).f0, (rd_T60 x0 x7).f1⟩ : S59)]) x6 (wrap64 (x7 + 1))) else (none)) else (none)) else (none)) else (some x3)
def ashlarlaw08_Theirs.f (k : Nat) (l0 : List (S60)) : Option ((List (S59))) := ashlarlaw08_Theirs.l0 k l0 ([] : List (S59)) (l0.length : Int) 0
theorem ashlarlaw08_Theirs.mono_l : ∀ k, (∀ y0 y1 y2 y3, LeO (ashlarlaw08_Theirs.l0 k y0 y1 y2 y3) (ashlarlaw08_Theirs.l0 (k + 1) y0 y1 y2 y3))
  | 0 => fun _ _ _ _ r h => by simp [ashlarlaw08_Theirs.l0] at h
  | k + 1 => by
    have ih0 := ashlarlaw08_Theirs.mono_l k
    · intro y0 y1 y2 y3
      unfold ashlarlaw08_Theirs.l0
      repeat' first
      | (with_reducible exact ih0 _ _ _ _)
      | (with_reducible exact LeO.refl _)
      | (with_reducible exact LeO.none _)
      | (with_reducible refine LeO.ite ?_ ?_)
      | (with_reducible refine LeO.bind ?_ (fun _ => ?_))
      | exact ih0 _ _ _ _
      | exact LeO.none _
      | refine LeO.ite ?_ ?_
      | refine LeO.bind ?_ (fun _ => ?_)
theorem ashlarlaw08_Theirs.mono : ∀ a0 k, LeO (ashlarlaw08_Theirs.f k a0) (ashlarlaw08_Theirs.f (k + 1) a0) := by
  intro a0 k
  have ih0 := ashlarlaw08_Theirs.mono_l k
  unfold ashlarlaw08_Theirs.f
  repeat' first
      | (with_reducible exact ih0 _ _ _ _)
      | (with_reducible exact LeO.refl _)
      | (with_reducible exact LeO.none _)
      | (with_reducible refine LeO.ite ?_ ?_)
      | (with_reducible refine LeO.bind ?_ (fun _ => ?_))
      | exact ih0 _ _ _ _
      | exact LeO.none _
      | refine LeO.ite ?_ ?_
      | refine LeO.bind ?_ (fun _ => ?_)
set_option maxHeartbeats 8000000 in
set_option maxRecDepth 100000 in
theorem ashlarlaw08_Theirs.calls (k : Nat) (A0 : Option Addr) (c0 : Nat) (l0 : List (S60)) (r : List (S59)) (w : World) (hr0 : Kd.C k60 w A0 l0.length l0) (hc0 : l0.length ≤ c0) (h : ashlarlaw08_Theirs.f k l0 = some r) :
    Calls Try.prog 31 #[.slice A0 l0.length c0] w fun e w' => ∃ v0_ : Value, e = .returned (v0_) ∧ Kd.R k59 59 w' w.heap.size (fun _ => True) v0_ r ∧ Below w.heap.size w w' := by
  have hu60 := Try.underlying60
  have HR0 := Aside0.mk hr0
  have HC0 := Aside0.mk hc0
  clear hr0 hc0
  have HB := Aside0.mk (Below.refl w.heap.size w)
  have H : (ashlarlaw08_Theirs.l0 k l0 ([] : List (S59)) (l0.length : Int) 0) = some r := h
  clear h
  have H' := Aside0.mk H
  clear H
  go_enter Try.func31, Try.ntmps31
  go_wp2
  go_loopg [3, 7] k (fun kq v3 v7 w' => ∃ (x3_1 : List (S59)) (x7_1 : Int), v7 = .int .i64 x7_1 ∧ Aside0 (ashlarlaw08_Theirs.l0 kq l0 x3_1 (l0.length : Int) x7_1 = some r) ∧ Aside0 (kq ≤ k) ∧ Aside0 (Kd.R k59 59 w' w.heap.size (fun _ => True) v3 x3_1) ∧ Aside0 (Below w.heap.size w w'))
  case atStart => exact ⟨(([] : List (S59))), (0), (by first | rfl | (simp; done) | (simp [*]; done)), H', ⟨Nat.le_refl _⟩, ⟨by first | exact Kd.R_nil _ _ _ _ _ | exact Kd.N_nil _ _ _ _ _ | exact Kd.V_nil _ _ _ _ _ | exact Kd.Q_nil _ _ _ _ _ | exact Kd.S_nil _ _ _ _ _⟩, ⟨by repeat (first | (with_reducible first | exact HB.out | apply below_alloc | apply pw_below_drewN | apply below_drew1) | exact HB.out)⟩⟩
  case round =>
    clear H'
    obtain ⟨x3_1, x7_1, rfl, HA, HK1, HO_3, HB⟩ := hrel
    cases gk with
    | zero => exact absurd HA.out (by simp [ashlarlaw08_Theirs.l0])
    | succ k1 =>
      have H := HA.out
      clear HA
      simp only [ashlarlaw08_Theirs.l0] at H
      by_cases c2 : x7_1 < (l0.length : Int)
      · rw [if_pos c2] at H
        have c2b0 : decide (x7_1 < (l0.length : Int)) = true := decide_eq_true c2
        clear c2
        by_cases c3 : 0 ≤ x7_1
        · rw [if_pos c3] at H
          have c3b0 : decide (0 ≤ x7_1) = true := decide_eq_true c3
          clear c3
          by_cases c4 : x7_1 < (l0.length : Int)
          · rw [if_pos c4] at H
            have c4b0 : decide (x7_1 < (l0.length : Int)) = true := decide_eq_true c4
            clear c4
            by_cases c5 : x3_1.length < 5864062014805
            · rw [if_pos c5] at H
              have LMc5 := Aside0.mk c5
              clear c5
              obtain ⟨y134, hy134⟩ : ∃ y_ : List (S59), y_ = (x3_1 ++ [(⟨(rd_T60 l0 x7_1).f0, (rd_T60 l0 x7_1).f1⟩ : S59)]) := ⟨_, rfl⟩
              replace H : (ashlarlaw08_Theirs.l0 k1 l0 y134 (l0.length : Int) (wrap64 (x7_1 + 1))) = some r := by first | (rw [hy134]; with_reducible exact H) | (have H2_ := (Option.bind_some _ _).symm.trans H; rw [hy134]; with_reducible exact H2_) | (have H2_ := (Option.bind_some _ _).symm.trans H; with_reducible exact H2_) | with_reducible exact H | (rw [hy134]; exact H) | exact H
              have Ny134 := Aside0.mk hy134
              clear hy134
              have H' := Aside0.mk H
              clear H
              have p133 : 0 ≤ (x7_1 : Int) := of_decide_eq_true (by first | (with_reducible assumption) | assumption)
              have q133 : x7_1 < (l0.length : Int) := of_decide_eq_true (by first | (with_reducible assumption) | assumption)
              obtain ⟨ad133, e133, hx133_0, hx133_1⟩ := at_T60 HR0.out x7_1 p133 q133
              cases e133
              replace hx133_0 := (HB.out.cell (World.block_lt_of_cell? w _ hx133_0)).trans hx133_0
              replace hx133_1 := (HB.out.cell (World.block_lt_of_cell? w _ hx133_1)).trans hx133_1
              replace p133 := eq_true p133
              replace q133 := eq_true q133
              go_wp2_with (first | ((with_reducible refine gate_builtin (b := .append) (xs := #[.tmp 10, .tmp 15]) rfl ?_); at_builtin; refine Kd.R_append k59 (w0 := w) w.heap.size rfl (.tmp 10) (.tmp 15) 54 59 (.agg #[(.int .i64 0), (.string ⟨#[]⟩)]) 24 rfl Try.underlying54 info59 rfl (by decide) (by omega) u3 x3_1 (⟨(rd_T60 l0 x7_1).f0, (rd_T60 l0 x7_1).f1⟩ : S59) [.int .i64 ((rd_T60 l0 x7_1).f0), .string ((rd_T60 l0 x7_1).f1)] (fun _ => True) (fun _ => False) rfl rfl ?aP (fun _ hk => hk.elim) ?aF ?aO ?aB ?aS ?aL ?_; (case aP => exact k59_mkM _ _ _ (⟨(rd_T60 l0 x7_1).f0, (rd_T60 l0 x7_1).f1⟩ : S59)); (case aB => exact (by repeat (first | (with_reducible first | exact HB.out | apply below_alloc | apply pw_below_drewN | apply below_drew1) | exact HB.out))); (case aF => exact (fun _ _ => trivial)); (case aO => exact (by (with_reducible repeat (first | apply Kd.R_alloc | apply Kd.R_drewN | apply Kd.R_drew)); exact HO_3.out)); (case aS => exact (below_size (by repeat (first | (with_reducible first | exact HB.out | apply below_alloc | apply pw_below_drewN | apply below_drew1) | exact HB.out)))); (case aL => have := LMc5.out; omega); intro v135 w6 ho hb hg hat; rw [← Ny134.out] at ho; have n0_ := Aside0.mk (hb); have n1_ := Aside0.mk (ho); clear HB; clear HO_3; have HB := n0_; have HO136 := n1_; clear n0_ n1_; clear ho hb hg hat))
              go_roundg k1
              case measure => have := HK1.out; omega
              case rel => exact ⟨(y134), (wrap64 (x7_1 + 1)), (by first | rfl | (simp; done) | (simp [*]; done)), H', ⟨by have := HK1.out; omega⟩, ⟨by (with_reducible repeat (first | apply Kd.R_alloc | apply Kd.R_drewN | apply Kd.R_drew)); exact HO136.out⟩, ⟨by repeat (first | (with_reducible first | exact HB.out | apply below_alloc | apply pw_below_drewN | apply below_drew1) | exact HB.out)⟩⟩
            · rw [if_neg c5] at H
              exact absurd H (by simp)
          · rw [if_neg c4] at H
            exact absurd H (by simp)
        · rw [if_neg c3] at H
          exact absurd H (by simp)
      · rw [if_neg c2] at H
        have c2b0 : decide (x7_1 < (l0.length : Int)) = false := decide_eq_false c2
        clear c2
        obtain rfl := Option.some.inj H
        go_wp2
        go_ret
        exact ⟨_, by first | rfl | (simp [errW_none, errW_some] <;> rfl) | (simp [*, errW_none, errW_some] <;> rfl), by (with_reducible repeat (first | apply Kd.R_alloc | apply Kd.R_drewN | apply Kd.R_drew)); exact HO_3.out, by repeat (first | (with_reducible first | exact HB.out | apply below_alloc | apply pw_below_drewN | apply below_drew1) | exact HB.out)⟩

/-! ### bytes_Equal: function 72 -/
def bytes_Equal.f (l0 : List Int) (l1 : List Int) : Option (Bool) := some ((strOfNums l0).toList == (strOfNums l1).toList)
set_option maxHeartbeats 8000000 in
set_option maxRecDepth 100000 in
theorem bytes_Equal.calls (A0 : Option Addr) (c0 : Nat) (l0 : List Int) (A1 : Option Addr) (c1 : Nat) (l1 : List Int) (r : Bool) (w : World) (hr0 : Kd.C (Kd.int .u8) w A0 l0.length l0) (hc0 : l0.length ≤ c0) (hr1 : Kd.C (Kd.int .u8) w A1 l1.length l1) (hc1 : l1.length ≤ c1) (h : bytes_Equal.f l0 l1 = some r) :
    Calls Try.prog 72 #[.slice A0 l0.length c0, .slice A1 l1.length c1] w fun e w' => e = .returned (.bool r) ∧ Drawn0 w w' := by
  have HR0 := Aside0.mk hr0
  have HC0 := Aside0.mk hc0
  clear hr0 hc0
  have HR1 := Aside0.mk hr1
  have HC1 := Aside0.mk hc1
  clear hr1 hc1
  have H : (some ((strOfNums l0).toList == (strOfNums l1).toList)) = some r := h
  clear h
  obtain rfl := Option.some.inj H
  have hcv3 := Kd.C_string (P := Try.prog) (A := A0) (c := c0) Try.underlying23 Try.underlying5 Try.underlying9 HR0.out
  first | (have hcv3b := hcv3; simp only [List.length_drop, List.length_take] at hcv3b; rw [Nat.min_eq_left (by omega)] at hcv3b; (try rw [show Int.toNat 3 = 3 from rfl] at hcv3b)) | skip
  have hcv4 := Kd.C_string (P := Try.prog) (A := A1) (c := c1) Try.underlying23 Try.underlying5 Try.underlying9 HR1.out
  first | (have hcv4b := hcv4; simp only [List.length_drop, List.length_take] at hcv4b; rw [Nat.min_eq_left (by omega)] at hcv4b; (try rw [show Int.toNat 3 = 3 from rfl] at hcv4b)) | skip
  go_enter Try.func72, Try.ntmps72
  go_wp2
  go_ret
  exact ⟨by first | rfl | (simp; done) | (simp [*]; done), by repeat (first | exact Drawn0.refl _ | apply Drawn0.step)⟩

/-! ### pack_Get: function 68 -/
mutual
def pack_Get.j0 : Nat → List Int → Int → Int → Int → Bool → Option (Int × Bool)
  | 0, _, _, _, _, _ => none
  | k + 1, x0, x1, x2, x6, x32 => if x32 = true then (some (0, false)) else (pack_Get.l0 k x0 x1 x6 (wrap64 (x2 - 1)))
def pack_Get.l0 : Nat → List Int → Int → Int → Int → Option (Int × Bool)
  | 0, _, _, _, _ => none
  | k + 1, x0, x1, x6, x8 => if x8 ≥ 0 then (if 0 ≤ (wrap64 (x1 + x8)) then (if (wrap64 (x1 + x8)) < (x0.length : Int) then (pack_Get.l0 k x0 x1 (Go.bits .or .u64 (IntKind.u64.wrap (x6 * 256)) (IntKind.u64.wrap (rd x0 (wrap64 (x1 + x8))))) (wrap64 (x8 - 1))) else (none)) else (none)) else (some (x6, true))
end
def pack_Get.f (k : Nat) (l0 : List Int) (a1 : Int) (a2 : Int) : Option (Int × Bool) := if a2 < 1 then (pack_Get.j0 k l0 a1 a2 0 true) else (if a2 > 8 then (pack_Get.j0 k l0 a1 a2 0 true) else (if a1 < 0 then (pack_Get.j0 k l0 a1 a2 0 true) else (if a1 > (l0.length : Int) then (pack_Get.j0 k l0 a1 a2 0 true) else (pack_Get.j0 k l0 a1 a2 0 (decide (a2 > (wrap64 ((l0.length : Int) - a1))))))))
theorem pack_Get.mono_l : ∀ k, (∀ y0 y1 y2 y3 y4, LeO (pack_Get.j0 k y0 y1 y2 y3 y4) (pack_Get.j0 (k + 1) y0 y1 y2 y3 y4)) ∧ (∀ y0 y1 y2 y3, LeO (pack_Get.l0 k y0 y1 y2 y3) (pack_Get.l0 (k + 1) y0 y1 y2 y3))
  | 0 => ⟨fun _ _ _ _ _ r h => by simp [pack_Get.j0] at h, fun _ _ _ _ r h => by simp [pack_Get.l0] at h⟩
  | k + 1 => by
    obtain ⟨ih0, ih1⟩ := pack_Get.mono_l k
    refine ⟨?_, ?_⟩
    · intro y0 y1 y2 y3 y4
      unfold pack_Get.j0
      repeat' first
      | (with_reducible exact ih0 _ _ _ _ _)
      | (with_reducible exact ih1 _ _ _ _)
      | (with_reducible exact LeO.refl _)
      | (with_reducible exact LeO.none _)
      | (with_reducible refine LeO.ite ?_ ?_)
      | (with_reducible refine LeO.bind ?_ (fun _ => ?_))
      | exact ih0 _ _ _ _ _
      | exact ih1 _ _ _ _
      | exact LeO.none _
      | refine LeO.ite ?_ ?_
      | refine LeO.bind ?_ (fun _ => ?_)
    · intro y0 y1 y2 y3
      unfold pack_Get.l0
      repeat' first
      | (with_reducible exact ih0 _ _ _ _ _)
      | (with_reducible exact ih1 _ _ _ _)
      | (with_reducible exact LeO.refl _)
      | (with_reducible exact LeO.none _)
      | (with_reducible refine LeO.ite ?_ ?_)
      | (with_reducible refine LeO.bind ?_ (fun _ => ?_))
      | exact ih0 _ _ _ _ _
      | exact ih1 _ _ _ _
      | exact LeO.none _
      | refine LeO.ite ?_ ?_
      | refine LeO.bind ?_ (fun _ => ?_)
theorem pack_Get.mono : ∀ a0 a1 a2 k, LeO (pack_Get.f k a0 a1 a2) (pack_Get.f (k + 1) a0 a1 a2) := by
  intro a0 a1 a2 k
  obtain ⟨ih0, ih1⟩ := pack_Get.mono_l k
  unfold pack_Get.f
  repeat' first
      | (with_reducible exact ih0 _ _ _ _ _)
      | (with_reducible exact ih1 _ _ _ _)
      | (with_reducible exact LeO.refl _)
      | (with_reducible exact LeO.none _)
      | (with_reducible refine LeO.ite ?_ ?_)
      | (with_reducible refine LeO.bind ?_ (fun _ => ?_))
      | exact ih0 _ _ _ _ _
      | exact ih1 _ _ _ _
      | exact LeO.none _
      | refine LeO.ite ?_ ?_
      | refine LeO.bind ?_ (fun _ => ?_)
set_option maxHeartbeats 8000000 in
set_option maxRecDepth 100000 in
theorem pack_Get.calls (k : Nat) (A0 : Option Addr) (c0 : Nat) (l0 : List Int) (a1 : Int) (a2 : Int) (r1 : Int) (r2 : Bool) (w : World) (hr0 : Kd.C (Kd.int .u8) w A0 l0.length l0) (hc0 : l0.length ≤ c0) (h : pack_Get.f k l0 a1 a2 = some (r1, r2)) :
    Calls Try.prog 68 #[.slice A0 l0.length c0, .int .i64 a1, .int .i64 a2] w fun e w' => e = .returned (.tuple #[.int .u64 r1, .bool r2]) ∧ Drawn0 w w' := by
  have HR0 := Aside0.mk hr0
  have HC0 := Aside0.mk hc0
  clear hr0 hc0
  have H : (if a2 < 1 then (pack_Get.j0 k l0 a1 a2 0 true) else (if a2 > 8 then (pack_Get.j0 k l0 a1 a2 0 true) else (if a1 < 0 then (pack_Get.j0 k l0 a1 a2 0 true) else (if a1 > (l0.length : Int) then (pack_Get.j0 k l0 a1 a2 0 true) else (pack_Get.j0 k l0 a1 a2 0 (decide (a2 > (wrap64 ((l0.length : Int) - a1))))))))) = some (r1, r2) := h
  clear h
  have HC4 := Aside0.mk H
  clear H
  go_enter Try.func68, Try.ntmps68
  go_upto_region 1 with (fail)
  go_cut [32] (fun v32 wc => ∃ (kq : Nat) (x32_3 : Bool), v32 = .bool x32_3 ∧ Aside0 (pack_Get.j0 kq l0 a1 a2 0 x32_3 = some (r1, r2)) ∧ Aside0 (kq ≤ k) ∧ Drawn0 w wc)
  case first =>
    have H := HC4.out
    clear HC4
    by_cases c5 : a2 < 1
    · rw [if_pos c5] at H
      have c5b0 : decide (a2 < 1) = true := decide_eq_true c5
      clear c5
      (first | rw [c5b0] | (simp only [i64_w, i32_w]; rw [c5b0]) | skip)
      have H' := Aside0.mk H
      clear H
      go_wp2
      go_meet
      case rel => exact ⟨_, (true), (by first | rfl | (simp; done) | (simp [*]; done)), H', ⟨by first | omega | exact Nat.le_refl _⟩, by repeat (first | exact Drawn0.refl _ | apply Drawn0.step)⟩
    · rw [if_neg c5] at H
      have c5b0 : decide (a2 < 1) = false := decide_eq_false c5
      clear c5
      (first | rw [c5b0] | (simp only [i64_w, i32_w]; rw [c5b0]) | skip)
      by_cases c6 : a2 > 8
      · rw [if_pos c6] at H
        have c6b0 : decide (8 < a2) = true := decide_eq_true c6
        clear c6
        have H' := Aside0.mk H
        clear H
        go_wp2
        go_meet
        case rel => exact ⟨_, (true), (by first | rfl | (simp; done) | (simp [*]; done)), H', ⟨by first | omega | exact Nat.le_refl _⟩, by repeat (first | exact Drawn0.refl _ | apply Drawn0.step)⟩
      · rw [if_neg c6] at H
        have c6b0 : decide (8 < a2) = false := decide_eq_false c6
        clear c6
        by_cases c7 : a1 < 0
        · rw [if_pos c7] at H
          have c7b0 : decide (a1 < 0) = true := decide_eq_true c7
          clear c7
          have H' := Aside0.mk H
          clear H
          go_wp2
          go_meet
          case rel => exact ⟨_, (true), (by first | rfl | (simp; done) | (simp [*]; done)), H', ⟨by first | omega | exact Nat.le_refl _⟩, by repeat (first | exact Drawn0.refl _ | apply Drawn0.step)⟩
        · rw [if_neg c7] at H
          have c7b0 : decide (a1 < 0) = false := decide_eq_false c7
          clear c7
          by_cases c8 : a1 > (l0.length : Int)
          · rw [if_pos c8] at H
            have c8b0 : decide ((l0.length : Int) < a1) = true := decide_eq_true c8
            clear c8
            have H' := Aside0.mk H
            clear H
            go_wp2
            go_meet
            case rel => exact ⟨_, (true), (by first | rfl | (simp; done) | (simp [*]; done)), H', ⟨by first | omega | exact Nat.le_refl _⟩, by repeat (first | exact Drawn0.refl _ | apply Drawn0.step)⟩
          · rw [if_neg c8] at H
            have c8b0 : decide ((l0.length : Int) < a1) = false := decide_eq_false c8
            clear c8
            have H' := Aside0.mk H
            clear H
            go_wp2
            go_meet
            case rel => exact ⟨_, (decide (a2 > (wrap64 ((l0.length : Int) - a1)))), (by first | rfl | (simp; done) | (simp [*]; done)), H', ⟨by first | omega | exact Nat.le_refl _⟩, by repeat (first | exact Drawn0.refl _ | apply Drawn0.step)⟩
  case rest =>
    clear HC4
    try clear p2
    try clear c5
    try clear c5b0
    try clear c6
    try clear c6b0
    try clear p6
    try clear c7
    try clear c7b0
    try clear c8
    try clear c8b0
    obtain ⟨kq, x32_3, rfl, HA, HJ3, ⟨mc3, rfl⟩⟩ := hcut
    cases kq with
    | zero => exact absurd HA.out (by simp [pack_Get.j0])
    | succ kj3 =>
      have H := HA.out
      clear HA
      simp only [pack_Get.j0] at H
      by_cases c9 : x32_3 = true
      · subst c9
        have H1 : (some (0, false)) = some (r1, r2) := by rw [if_pos rfl] at H; exact H
        clear H
        have H := H1
        clear H1
        simp only [Option.some.injEq, Prod.mk.injEq] at H
        obtain ⟨rfl, rfl⟩ := H
        go_wp2
        go_ret2
        exact ⟨by first | rfl | (simp; done) | (simp [*]; done), by repeat (first | exact Drawn0.refl _ | apply Drawn0.step)⟩
      · replace c9 := Bool.eq_false_iff.mpr c9
        subst c9
        have H1 : (pack_Get.l0 kj3 l0 a1 0 (wrap64 (a2 - 1))) = some (r1, r2) := by rw [if_neg (show ¬ (false = true) by decide)] at H; exact H
        clear H
        have H := H1
        clear H1
        have H' := Aside0.mk H
        clear H
        go_wp2
        go_loopg [6, 8] kj3 (fun kq v6 v8 w' => ∃ (x6_2 : Int) (x8_2 : Int), v6 = .int .u64 x6_2 ∧ v8 = .int .i64 x8_2 ∧ Aside0 (pack_Get.l0 kq l0 a1 x6_2 x8_2 = some (r1, r2)) ∧ Aside0 (kq ≤ kj3) ∧ Drawn0 w w')
        case atStart => exact ⟨(0), (wrap64 (a2 - 1)), (by first | rfl | (simp; done) | (simp [*]; done)), (by first | rfl | (simp; done) | (simp [*]; done)), H', ⟨Nat.le_refl _⟩, by repeat (first | exact Drawn0.refl _ | apply Drawn0.step)⟩
        case round =>
          clear H'
          try clear p2
          try clear c3
          try clear c5
          try clear c5b0
          try clear c6
          try clear c6b0
          try clear p6
          try clear c7
          try clear c7b0
          try clear c8
          try clear c8b0
          try clear c9
          try clear p2
          try clear p6
          obtain ⟨x6_2, x8_2, rfl, rfl, HA, HK2, ⟨m2, rfl⟩⟩ := hrel
          cases gk with
          | zero => exact absurd HA.out (by simp [pack_Get.l0])
          | succ k2 =>
            have H := HA.out
            clear HA
            simp only [pack_Get.l0] at H
            by_cases c10 : x8_2 ≥ 0
            · rw [if_pos c10] at H
              have c10b0 : decide (0 ≤ x8_2) = true := decide_eq_true c10
              clear c10
              obtain ⟨ji11, hji11⟩ : ∃ j_ : Int, (wrap64 (a1 + x8_2)) = j_ := ⟨_, rfl⟩
              replace H : (if 0 ≤ (ji11) then (if (ji11) < (l0.length : Int) then (pack_Get.l0 k2 l0 a1 (Go.bits .or .u64 (IntKind.u64.wrap (x6_2 * 256)) (IntKind.u64.wrap (rd l0 (ji11)))) (wrap64 (x8_2 - 1))) else (none)) else (none)) = some (r1, r2) := by first | (rw [hji11] at H; exact H) | (simp only [hji11] at H ⊢; exact H)
              have hji11w : (IntKind.i64.wrap (a1 + x8_2)) = ji11 := (i64_w _).trans hji11
              by_cases c12 : 0 ≤ (ji11)
              · rw [if_pos c12] at H
                have c12b0 : decide (0 ≤ (ji11)) = true := decide_eq_true c12
                clear c12
                by_cases c13 : (ji11) < (l0.length : Int)
                · rw [if_pos c13] at H
                  have c13b0 : decide ((ji11) < (l0.length : Int)) = true := decide_eq_true c13
                  clear c13
                  have H' := Aside0.mk H
                  clear H
                  have p137 : 0 ≤ ((ji11) : Int) := of_decide_eq_true (by first | (with_reducible assumption) | assumption)
                  have q137 : (ji11) < (l0.length : Int) := of_decide_eq_true (by first | (with_reducible assumption) | assumption)
                  obtain ⟨ad137, e137, hx137_0⟩ := Kd.at_int HR0.out (ji11) p137 q137
                  cases e137
                  replace p137 := eq_true p137
                  replace q137 := eq_true q137
                  go_wp2
                  go_roundg k2
                  case measure => have := HJ3.out; have := HK2.out; omega
                  case rel => exact ⟨(Go.bits .or .u64 (IntKind.u64.wrap (x6_2 * 256)) (IntKind.u64.wrap (rd l0 (ji11)))), (wrap64 (x8_2 - 1)), (by first | rfl | (simp; done) | (simp only [← hji11] <;> (first | rfl | simp)) | (simp [*]; done)), (by first | rfl | (simp; done) | (simp [*]; done)), H', ⟨by have := HJ3.out; have := HK2.out; omega⟩, by repeat (first | exact Drawn0.refl _ | apply Drawn0.step)⟩
                · rw [if_neg c13] at H
                  exact absurd H (by simp)
              · rw [if_neg c12] at H
                exact absurd H (by simp)
            · rw [if_neg c10] at H
              have c10b0 : decide (0 ≤ x8_2) = false := decide_eq_false c10
              clear c10
              simp only [Option.some.injEq, Prod.mk.injEq] at H
              obtain ⟨rfl, rfl⟩ := H
              go_wp2
              go_ret2
              exact ⟨by first | rfl | (simp; done) | (simp [*]; done), by repeat (first | exact Drawn0.refl _ | apply Drawn0.step)⟩

/-! ### dirent_Of: function 78 -/
def dirent_Of.j0 : Nat → List Int → Int → Bool → Option (Int × ByteArray × Bool)
  | 0, _, _, _ => none
  | k + 1, x0, x4, x25 => if x25 = true then (some (0, (⟨#[]⟩ : ByteArray), false)) else (if 2 < (x0.length : Int) then (if 3 ≤ (wrap64 (3 + (wrap64 (rd x0 2)))) then (if (wrap64 (3 + (wrap64 (rd x0 2)))) ≤ (x0.length : Int) then ((dirent_Formed.f (wrap64 (x4)) (strOfNums ((x0.take ((wrap64 (3 + (wrap64 (rd x0 2)))) : Int).toNat).drop 3))).bind fun t145 => (if t145 = true then ((dirent_Bytes.f k (wrap64 (x4)) (strOfNums ((x0.take ((wrap64 (3 + (wrap64 (rd x0 2)))) : Int).toNat).drop 3))).bind fun t146 => ((bytes_Equal.f t146 x0).bind fun t149 => (if t149 = true then (some (wrap64 (x4), strOfNums ((x0.take ((wrap64 (3 + (wrap64 (rd x0 2)))) : Int).toNat).drop 3), true)) else (some (0, (⟨#[]⟩ : ByteArray), false))))) else (some (0, (⟨#[]⟩ : ByteArray), false)))) else (none)) else (none)) else (none))
def dirent_Of.f (k : Nat) (l0 : List Int) : Option (Int × ByteArray × Bool) := (pack_Get.f k l0 0 2).bind fun bt139 => (if bt139.2 = true then (if (l0.length : Int) = 16 then (if 2 < (l0.length : Int) then (dirent_Of.j0 k l0 bt139.1 (decide ((wrap64 (rd l0 2)) > 13))) else (none)) else (dirent_Of.j0 k l0 bt139.1 true)) else (dirent_Of.j0 k l0 bt139.1 true))
theorem dirent_Of.mono_l : ∀ k, (∀ y0 y1 y2, LeO (dirent_Of.j0 k y0 y1 y2) (dirent_Of.j0 (k + 1) y0 y1 y2))
  | 0 => fun _ _ _ r h => by simp [dirent_Of.j0] at h
  | k + 1 => by
    have ih0 := dirent_Of.mono_l k
    · intro y0 y1 y2
      unfold dirent_Of.j0
      repeat' first
      | (with_reducible exact ih0 _ _ _)
      | (with_reducible exact dirent_Bytes.mono _ _ _)
      | (with_reducible exact pack_Get.mono _ _ _ _)
      | (with_reducible exact LeO.refl _)
      | (with_reducible exact LeO.none _)
      | (with_reducible refine LeO.ite ?_ ?_)
      | (with_reducible refine LeO.bind ?_ (fun _ => ?_))
      | exact ih0 _ _ _
      | exact dirent_Bytes.mono _ _ _
      | exact pack_Get.mono _ _ _ _
      | exact LeO.none _
      | refine LeO.ite ?_ ?_
      | refine LeO.bind ?_ (fun _ => ?_)
theorem dirent_Of.mono : ∀ a0 k, LeO (dirent_Of.f k a0) (dirent_Of.f (k + 1) a0) := by
  intro a0 k
  have ih0 := dirent_Of.mono_l k
  unfold dirent_Of.f
  repeat' first
      | (with_reducible exact ih0 _ _ _)
      | (with_reducible exact dirent_Bytes.mono _ _ _)
      | (with_reducible exact pack_Get.mono _ _ _ _)
      | (with_reducible exact LeO.refl _)
      | (with_reducible exact LeO.none _)
      | (with_reducible refine LeO.ite ?_ ?_)
      | (with_reducible refine LeO.bind ?_ (fun _ => ?_))
      | exact ih0 _ _ _
      | exact dirent_Bytes.mono _ _ _
      | exact pack_Get.mono _ _ _ _
      | exact LeO.none _
      | refine LeO.ite ?_ ?_
      | refine LeO.bind ?_ (fun _ => ?_)
set_option maxHeartbeats 8000000 in
set_option maxRecDepth 100000 in
theorem dirent_Of.calls (k : Nat) (A0 : Option Addr) (c0 : Nat) (l0 : List Int) (r1 : Int) (r2 : ByteArray) (r3 : Bool) (w : World) (hr0 : Kd.C (Kd.int .u8) w A0 l0.length l0) (hc0 : l0.length ≤ c0) (h : dirent_Of.f k l0 = some (r1, r2, r3)) :
    Calls Try.prog 78 #[.slice A0 l0.length c0] w fun e w' => e = .returned (.tuple #[.agg #[.int .i64 r1, .string r2], .bool r3]) ∧ Below w.heap.size w w' := by
  have hu59 := Try.underlying59
  have HR0 := Aside0.mk hr0
  have HC0 := Aside0.mk hc0
  clear hr0 hc0
  have HB := Aside0.mk (Below.refl w.heap.size w)
  have H : ((pack_Get.f k l0 0 2).bind fun bt139 => (if bt139.2 = true then (if (l0.length : Int) = 16 then (if 2 < (l0.length : Int) then (dirent_Of.j0 k l0 bt139.1 (decide ((wrap64 (rd l0 2)) > 13))) else (none)) else (dirent_Of.j0 k l0 bt139.1 true)) else (dirent_Of.j0 k l0 bt139.1 true))) = some (r1, r2, r3) := h
  clear h
  replace H := Option.bind_eq_some_iff.mp H
  obtain ⟨⟨t139, t140⟩, A20, H⟩ := H
  replace H : (if t140 = true then (if (l0.length : Int) = 16 then (if 2 < (l0.length : Int) then (dirent_Of.j0 k l0 t139 (decide ((wrap64 (rd l0 2)) > 13))) else (none)) else (dirent_Of.j0 k l0 t139 true)) else (dirent_Of.j0 k l0 t139 true)) = some (r1, r2, r3) := H
  have A2 := Aside0.mk A20
  clear A20
  have HC3 := Aside0.mk H
  clear H
  go_enter Try.func78, Try.ntmps78
  go_upto_region 2 with (first | ((with_reducible refine gate_dst (N := 2) rfl ?_); (try (refine gate_guard (by rfl) ?_; dsimp only)); refine box_event ?hg (N := 2) ?hd (cs := #[.int .i64 0, .string (⟨#[]⟩ : ByteArray)]) (t := 59) ?hr ?_; (case hd => rfl); (case hg => rfl); (case hr => first | (go_simp; done) | (go_simp; rfl)); intro gb138 hg w4 hbox hb; have n0_ := Aside0.mk (below_step (by repeat (first | (with_reducible first | exact HB.out | apply below_alloc | apply pw_below_drewN | apply below_drew1) | exact HB.out)) hb); have n1_ := Aside0.mk (hbox); have n2_ := Aside0.mk ((by rw [hg]; exact (below_size (by repeat (first | (with_reducible first | exact HB.out | apply below_alloc | apply pw_below_drewN | apply below_drew1) | exact HB.out))) : w.heap.size ≤ gb138)); have n3_ := Aside0.mk ((by rw [hg]; exact (below_size (by repeat (first | (with_reducible first | exact HB.out | apply below_alloc | apply pw_below_drewN | apply below_drew1) | exact HB.out))) : w.heap.size ≤ gb138)); clear HB; have HB := n0_; have BK138 := n1_; have GW138 := n2_; have GE138 := n3_; clear n0_ n1_ n2_ n3_; clear hb hbox hg) | ((with_reducible refine gate_callee (f := 68) rfl ?_); refine goesL_ (some 9) rfl rfl Try.func68 (by kernel_rfl) rfl #[.slice A0 l0.length c0, .int .i64 0, .int .i64 2] rfl (by (try simp only [List.map_toArray, List.map_cons, List.map_nil]); first | done | rfl | (simp only [List.length_drop, List.length_take]; rfl)) ?_; (with_reducible refine (pack_Get.calls k _ _ l0 0 2 t139 t140 _ ?side1 ?side2 A2.out).mono ?_); (case side1 => repeat (first | exact (Kd.C_below HR0.out HB.out) | (with_reducible refine Kd.C_alloc ?_ _) | (with_reducible refine Kd.C_drewN ?_ _) | (with_reducible refine Kd.C_drew ?_))); (case side2 => exact HC0.out); rintro e w' ⟨rfl, ⟨nd, rfl⟩⟩; refine ⟨_, rfl, ?_⟩))
  (try simp only [Act.put, List.setIfInBounds_toArray, List.set_cons_zero, List.set_cons_succ])
  go_cut [25] (fun v25 wc => ∃ (kq : Nat) (x25_2 : Bool), v25 = .bool x25_2 ∧ Aside0 (dirent_Of.j0 kq l0 t139 x25_2 = some (r1, r2, r3)) ∧ Aside0 (kq ≤ k) ∧ Aside0 (wc.heap[gb138]? = some (.cells #[.int .i64 0, .string (⟨#[]⟩ : ByteArray)] 59 (0, 0))) ∧ Aside0 (Below w.heap.size w wc))
  case first =>
    have H := HC3.out
    clear HC3
    by_cases c5 : t140 = true
    · subst c5
      have H1 : (if (l0.length : Int) = 16 then (if 2 < (l0.length : Int) then (dirent_Of.j0 k l0 t139 (decide ((wrap64 (rd l0 2)) > 13))) else (none)) else (dirent_Of.j0 k l0 t139 true)) = some (r1, r2, r3) := by rw [if_pos rfl] at H; exact H
      clear H
      have H := H1
      clear H1
      by_cases c6 : (l0.length : Int) = 16
      · rw [if_pos c6] at H
        have c6b0 : ((l0.length : Int) == 16) = true := beq_iff_eq.mpr c6
        have c6b1 : ((l0.length : Int) != 16) = false := bne_eq_false_iff_eq.mpr c6
        clear c6
        (first | rw [c6b0] | (simp only [i64_w, i32_w]; rw [c6b0]) | skip)
        by_cases c7 : 2 < (l0.length : Int)
        · rw [if_pos c7] at H
          have c7b0 : decide (2 < (l0.length : Int)) = true := decide_eq_true c7
          have c7b1 : decide (2 < l0.length) = true := decide_eq_true (by omega)
          clear c7
          have H' := Aside0.mk H
          clear H
          have p141 : 0 ≤ (2 : Int) := (by omega)
          have q141 : 2 < (l0.length : Int) := of_decide_eq_true (by first | (with_reducible assumption) | assumption)
          obtain ⟨ad141, e141, hx141_0⟩ := Kd.at_int HR0.out 2 p141 q141
          cases e141
          (try simp only [show (2 : Int).toNat = 2 from rfl, Nat.reduceMul, Nat.reduceEqDiff, Go.Addr.add, ↓reduceIte] at hx141_0)
          have qi141 : (2 < l0.length) = True := eq_true (by omega)
          (try rw [show ((2 : Int)).toNat = 2 from rfl] at hx141_0)
          replace hx141_0 := (HB.out.cell (World.block_lt_of_cell? w _ hx141_0)).trans hx141_0
          replace p141 := eq_true p141
          replace q141 := eq_true q141
          go_wp2
          go_meet
          case rel => exact ⟨_, (decide ((wrap64 (rd l0 2)) > 13)), (by first | rfl | (simp; done) | (simp [*]; done)), H', ⟨by first | omega | exact Nat.le_refl _⟩, ⟨by (with_reducible repeat (first | refine blk_drewN ?_ _ | refine blk_drew ?_ | refine blk_alloc ?_ _)); exact BK138.out⟩, ⟨by repeat (first | (with_reducible first | exact HB.out | apply below_alloc | apply pw_below_drewN | apply below_drew1 | refine below_set ?_ GE138.out) | exact HB.out)⟩⟩
        · rw [if_neg c7] at H
          exact absurd H (by simp)
      · rw [if_neg c6] at H
        have c6b0 : ((l0.length : Int) == 16) = false := beq_eq_false_iff_ne.mpr c6
        have c6b1 : ((l0.length : Int) != 16) = true := bne_iff_ne.mpr c6
        (first | rw [c6b0] | (simp only [i64_w, i32_w]; rw [c6b0]) | skip)
        have H' := Aside0.mk H
        clear H
        go_wp2
        go_meet
        case rel => exact ⟨_, (true), (by first | rfl | (simp; done) | (simp [*]; done)), H', ⟨by first | omega | exact Nat.le_refl _⟩, ⟨by (with_reducible repeat (first | refine blk_drewN ?_ _ | refine blk_drew ?_ | refine blk_alloc ?_ _)); exact BK138.out⟩, ⟨by repeat (first | (with_reducible first | exact HB.out | apply below_alloc | apply pw_below_drewN | apply below_drew1 | refine below_set ?_ GE138.out) | exact HB.out)⟩⟩
    · replace c5 := Bool.eq_false_iff.mpr c5
      subst c5
      have H1 : (dirent_Of.j0 k l0 t139 true) = some (r1, r2, r3) := by rw [if_neg (show ¬ (false = true) by decide)] at H; exact H
      clear H
      have H := H1
      clear H1
      have H' := Aside0.mk H
      clear H
      go_wp2
      go_meet
      case rel => exact ⟨_, (true), (by first | rfl | (simp; done) | (simp [*]; done)), H', ⟨by first | omega | exact Nat.le_refl _⟩, ⟨by (with_reducible repeat (first | refine blk_drewN ?_ _ | refine blk_drew ?_ | refine blk_alloc ?_ _)); exact BK138.out⟩, ⟨by repeat (first | (with_reducible first | exact HB.out | apply below_alloc | apply pw_below_drewN | apply below_drew1 | refine below_set ?_ GE138.out) | exact HB.out)⟩⟩
  case rest =>
    clear HC3
    try clear p1
    try clear q1
    try clear hx1
    try clear qi1
    try clear p2
    try clear c5
    try clear c6
    try clear c6b0
    try clear c6b1
    try clear p6
    try clear c7
    try clear c7b0
    try clear c7b1
    try clear hx141_0
    try clear p141
    try clear q141
    obtain ⟨kq, x25_2, rfl, HA, HJ2, BK138, HB⟩ := hcut
    cases kq with
    | zero => exact absurd HA.out (by simp [dirent_Of.j0])
    | succ kj2 =>
      have H := HA.out
      clear HA
      simp only [dirent_Of.j0] at H
      by_cases c8 : x25_2 = true
      · subst c8
        have H1 : (some (0, (⟨#[]⟩ : ByteArray), false)) = some (r1, r2, r3) := by rw [if_pos rfl] at H; exact H
        clear H
        have H := H1
        clear H1
        simp only [Option.some.injEq, Prod.mk.injEq] at H
        obtain ⟨rfl, rfl, rfl⟩ := H
        have hcz9_0 : wc.cell? ⟨gb138, 0, none⟩ = some (.int .i64 0) := (blk_cell BK138.out 0).trans rfl
        have hcz9_1 : wc.cell? ⟨gb138, 1, none⟩ = some (.string (⟨#[]⟩ : ByteArray)) := (blk_cell BK138.out 1).trans rfl
        have hfz9_0 := blk_frozen BK138.out 0
        have hfz9_1 := blk_frozen BK138.out 1
        go_wp2
        refine bodyPost_ret (results_ct rfl _ _ gb138 59 #[.int .i64 0, .string (⟨#[]⟩ : ByteArray)] (0, 0) _ rfl (by (with_reducible repeat (first | refine blk_drewN ?_ _ | refine blk_drew ?_ | refine blk_alloc ?_ _)); refine blk_put (cs := #[.int .i64 0, .string (⟨#[]⟩ : ByteArray)]) ?_ 1 _ rfl; (with_reducible repeat (first | refine blk_drewN ?_ _ | refine blk_drew ?_ | refine blk_alloc ?_ _)); refine blk_put (cs := #[.int .i64 0, .string (⟨#[]⟩ : ByteArray)]) ?_ 0 _ rfl; (with_reducible repeat (first | refine blk_drewN ?_ _ | refine blk_drew ?_ | refine blk_alloc ?_ _)); exact BK138.out) Try.underlying59 rfl (by kernel_rfl)) rfl ?_
        exact ⟨by first | rfl | (simp [errW_none, errW_some] <;> rfl) | (simp [*, errW_none, errW_some] <;> rfl), by repeat (first | (with_reducible first | exact HB.out | apply below_alloc | apply pw_below_drewN | apply below_drew1 | refine below_set ?_ GE138.out) | exact HB.out)⟩
      · replace c8 := Bool.eq_false_iff.mpr c8
        subst c8
        have H1 : (if 2 < (l0.length : Int) then (if 3 ≤ (wrap64 (3 + (wrap64 (rd l0 2)))) then (if (wrap64 (3 + (wrap64 (rd l0 2)))) ≤ (l0.length : Int) then ((dirent_Formed.f (wrap64 (t139)) (strOfNums ((l0.take ((wrap64 (3 + (wrap64 (rd l0 2)))) : Int).toNat).drop 3))).bind fun t145 => (if t145 = true then ((dirent_Bytes.f kj2 (wrap64 (t139)) (strOfNums ((l0.take ((wrap64 (3 + (wrap64 (rd l0 2)))) : Int).toNat).drop 3))).bind fun t146 => ((bytes_Equal.f t146 l0).bind fun t149 => (if t149 = true then (some (wrap64 (t139), strOfNums ((l0.take ((wrap64 (3 + (wrap64 (rd l0 2)))) : Int).toNat).drop 3), true)) else (some (0, (⟨#[]⟩ : ByteArray), false))))) else (some (0, (⟨#[]⟩ : ByteArray), false)))) else (none)) else (none)) else (none)) = some (r1, r2, r3) := by rw [if_neg (show ¬ (false = true) by decide)] at H; exact H
        clear H
        have H := H1
        clear H1
        by_cases c10 : 2 < (l0.length : Int)
        · rw [if_pos c10] at H
          have c10b0 : decide (2 < (l0.length : Int)) = true := decide_eq_true c10
          have c10b1 : decide (2 < l0.length) = true := decide_eq_true (by omega)
          clear c10
          by_cases c11 : 3 ≤ (wrap64 (3 + (wrap64 (rd l0 2))))
          · rw [if_pos c11] at H
            have c11b0 := eq_true c11
            have c11b1 : decide (3 ≤ (wrap64 (3 + (wrap64 (rd l0 2))))) = true := decide_eq_true c11
            by_cases c12 : (wrap64 (3 + (wrap64 (rd l0 2)))) ≤ (l0.length : Int)
            · rw [if_pos c12] at H
              have c12b0 := eq_true c12
              have c12b1 : decide ((wrap64 (3 + (wrap64 (rd l0 2)))) ≤ (l0.length : Int)) = true := decide_eq_true c12
              replace H := Option.bind_eq_some_iff.mp H
              obtain ⟨t145, A130, H⟩ := H
              replace H : (if t145 = true then ((dirent_Bytes.f kj2 (wrap64 (t139)) (strOfNums ((l0.take ((wrap64 (3 + (wrap64 (rd l0 2)))) : Int).toNat).drop 3))).bind fun t146 => ((bytes_Equal.f t146 l0).bind fun t149 => (if t149 = true then (some (wrap64 (t139), strOfNums ((l0.take ((wrap64 (3 + (wrap64 (rd l0 2)))) : Int).toNat).drop 3), true)) else (some (0, (⟨#[]⟩ : ByteArray), false))))) else (some (0, (⟨#[]⟩ : ByteArray), false))) = some (r1, r2, r3) := H
              have A13 := Aside0.mk A130
              clear A130
              by_cases c14 : t145 = true
              · subst c14
                have H1 : ((dirent_Bytes.f kj2 (wrap64 (t139)) (strOfNums ((l0.take ((wrap64 (3 + (wrap64 (rd l0 2)))) : Int).toNat).drop 3))).bind fun t146 => ((bytes_Equal.f t146 l0).bind fun t149 => (if t149 = true then (some (wrap64 (t139), strOfNums ((l0.take ((wrap64 (3 + (wrap64 (rd l0 2)))) : Int).toNat).drop 3), true)) else (some (0, (⟨#[]⟩ : ByteArray), false))))) = some (r1, r2, r3) := by rw [if_pos rfl] at H; exact H
                clear H
                have H := H1
                clear H1
                replace H := Option.bind_eq_some_iff.mp H
                obtain ⟨t146, A150, H⟩ := H
                replace H : ((bytes_Equal.f t146 l0).bind fun t149 => (if t149 = true then (some (wrap64 (t139), strOfNums ((l0.take ((wrap64 (3 + (wrap64 (rd l0 2)))) : Int).toNat).drop 3), true)) else (some (0, (⟨#[]⟩ : ByteArray), false)))) = some (r1, r2, r3) := H
                have A15 := Aside0.mk A150
                clear A150
                replace H := Option.bind_eq_some_iff.mp H
                obtain ⟨t149, A160, H⟩ := H
                replace H : (if t149 = true then (some (wrap64 (t139), strOfNums ((l0.take ((wrap64 (3 + (wrap64 (rd l0 2)))) : Int).toNat).drop 3), true)) else (some (0, (⟨#[]⟩ : ByteArray), false))) = some (r1, r2, r3) := H
                have A16 := Aside0.mk A160
                clear A160
                by_cases c17 : t149 = true
                · subst c17
                  have H1 : (some (wrap64 (t139), strOfNums ((l0.take ((wrap64 (3 + (wrap64 (rd l0 2)))) : Int).toNat).drop 3), true)) = some (r1, r2, r3) := by rw [if_pos rfl] at H; exact H
                  clear H
                  have H := H1
                  clear H1
                  simp only [Option.some.injEq, Prod.mk.injEq] at H
                  obtain ⟨rfl, rfl, rfl⟩ := H
                  have p142 : 0 ≤ (2 : Int) := (by omega)
                  have q142 : 2 < (l0.length : Int) := of_decide_eq_true (by first | (with_reducible assumption) | assumption)
                  obtain ⟨ad142, e142, hx142_0⟩ := Kd.at_int HR0.out 2 p142 q142
                  cases e142
                  (try simp only [show (2 : Int).toNat = 2 from rfl, Nat.reduceMul, Nat.reduceEqDiff, Go.Addr.add, ↓reduceIte] at hx142_0)
                  have qi142 : (2 < l0.length) = True := eq_true (by omega)
                  (try rw [show ((2 : Int)).toNat = 2 from rfl] at hx142_0)
                  replace hx142_0 := (HB.out.cell (World.block_lt_of_cell? w _ hx142_0)).trans hx142_0
                  replace p142 := eq_true p142
                  replace q142 := eq_true q142
                  obtain ⟨i018, hi018, _, hsz18, _⟩ := info_parts info5
                  obtain ⟨A18, hcut18, hA18, hC18⟩ := print_mid_of (P := Try.prog) (Value.int .u8) 0 23 5 .i64 .i64 Try.underlying23 hi018 hsz18 (some ad142) c0 l0 3 (wrap64 (3 + (wrap64 (rd l0 2)))) (by omega) (by first | omega | exact of_decide_eq_true (by first | (with_reducible assumption) | assumption)) (of_decide_eq_true (by first | (with_reducible assumption) | assumption)) HC0.out
                  have HR143 := Aside0.mk (Kd.C_of_reads (h1 := fun _ => rfl) (hA18 _ (Kd.reads_of_C HR0.out)))
                  have HC143 := Aside0.mk hC18
                  clear hA18 hC18 hi018 hsz18
                  have hcv19 := Kd.C_string (P := Try.prog) (A := A18) (c := (c0 - 3)) Try.underlying23 Try.underlying5 Try.underlying9 (Kd.C_below HR143.out HB.out)
                  first | (have hcv19b := hcv19; simp only [List.length_drop, List.length_take] at hcv19b; rw [Nat.min_eq_left (by omega)] at hcv19b; (try rw [show Int.toNat 3 = 3 from rfl] at hcv19b)) | skip
                  go_wp2_with (first | ((with_reducible refine gate_dst (N := 6) rfl ?_); (try (refine gate_guard (by rfl) ?_; dsimp only)); refine box_event ?hg (N := 6) ?hd (cs := #[.int .i64 0, .string (⟨#[]⟩ : ByteArray)]) (t := 59) ?hr ?_; (case hd => rfl); (case hg => rfl); (case hr => first | (go_simp; done) | (go_simp; rfl)); intro gb144 hg w20 hbox hb; have n0_ := Aside0.mk (blk_below (g := gb138) (o := .cells #[.int .i64 0, .string (⟨#[]⟩ : ByteArray)] 59 (0, 0)) (by (with_reducible repeat (first | refine blk_drewN ?_ _ | refine blk_drew ?_ | refine blk_alloc ?_ _)); exact BK138.out) hb); have n1_ := Aside0.mk (below_step (by repeat (first | (with_reducible first | exact HB.out | apply below_alloc | apply pw_below_drewN | apply below_drew1 | refine below_set ?_ GE138.out) | exact HB.out)) hb); have n2_ := Aside0.mk (hbox); have n3_ := Aside0.mk ((by rw [hg]; exact (below_size (by repeat (first | (with_reducible first | exact HB.out | apply below_alloc | apply pw_below_drewN | apply below_drew1 | refine below_set ?_ GE138.out) | exact HB.out))) : w.heap.size ≤ gb144)); have n4_ := Aside0.mk ((by rw [hg]; exact (below_size (by repeat (first | (with_reducible first | exact HB.out | apply below_alloc | apply pw_below_drewN | apply below_drew1 | refine below_set ?_ GE138.out) | exact HB.out))) : w.heap.size ≤ gb144)); have n5_ := Aside0.mk ((by rw [hg]; exact Nat.ne_of_lt (blk_lt (g := gb138) (o := .cells #[.int .i64 0, .string (⟨#[]⟩ : ByteArray)] 59 (0, 0)) (by (with_reducible repeat (first | refine blk_drewN ?_ _ | refine blk_drew ?_ | refine blk_alloc ?_ _)); exact BK138.out)) : gb138 ≠ gb144)); have n6_ := Aside0.mk ((by rw [hg]; exact Nat.ne_of_gt (blk_lt (g := gb138) (o := .cells #[.int .i64 0, .string (⟨#[]⟩ : ByteArray)] 59 (0, 0)) (by (with_reducible repeat (first | refine blk_drewN ?_ _ | refine blk_drew ?_ | refine blk_alloc ?_ _)); exact BK138.out)) : gb144 ≠ gb138)); clear BK138; clear HB; have BK138 := n0_; have HB := n1_; have BK144 := n2_; have GW144 := n3_; have GE144 := n4_; have NB138_144 := n5_; have NB144_138 := n6_; clear n0_ n1_ n2_ n3_ n4_ n5_ n6_; clear hb hbox hg; have hnb21 := NB144_138.out; have hnc21 := NB138_144.out; have hcz22_0 : w20.cell? ⟨gb144, 0, none⟩ = some (.int .i64 0) := (blk_cell BK144.out 0).trans rfl; have hcz22_1 : w20.cell? ⟨gb144, 1, none⟩ = some (.string (⟨#[]⟩ : ByteArray)) := (blk_cell BK144.out 1).trans rfl; have hfz22_0 := blk_frozen BK144.out 0; have hfz22_1 := blk_frozen BK144.out 1) | ((with_reducible refine gate_callee (f := 33) rfl ?_); refine goesL_ (some 39) rfl rfl Try.func33 (by kernel_rfl) rfl #[.agg #[.int .i64 (wrap64 (t139)), .string (strOfNums ((l0.take ((wrap64 (3 + (wrap64 (rd l0 2)))) : Int).toNat).drop 3))]] rfl (by (try simp only [List.map_toArray, List.map_cons, List.map_nil]); first | done | rfl | (simp only [List.length_drop, List.length_take]; rfl)) ?_; (with_reducible refine (dirent_Formed.calls (wrap64 (t139)) (strOfNums ((l0.take ((wrap64 (3 + (wrap64 (rd l0 2)))) : Int).toNat).drop 3)) true _ A13.out).mono ?_); rintro e w23 ⟨rfl, hb⟩; refine ⟨_, rfl, ?_⟩; have n0_ := Aside0.mk (blk_below (g := gb138) (o := .cells #[.int .i64 0, .string (⟨#[]⟩ : ByteArray)] 59 (0, 0)) (by (with_reducible repeat (first | refine blk_drewN ?_ _ | refine blk_drew ?_ | refine blk_alloc ?_ _)); refine blk_far ?_ NB138_144.out _; (with_reducible repeat (first | refine blk_drewN ?_ _ | refine blk_drew ?_ | refine blk_alloc ?_ _)); refine blk_far ?_ NB138_144.out _; (with_reducible repeat (first | refine blk_drewN ?_ _ | refine blk_drew ?_ | refine blk_alloc ?_ _)); exact BK138.out) hb); have n1_ := Aside0.mk (blk_below (g := gb144) (o := .cells #[.int .i64 (wrap64 (t139)), .string (strOfNums ((l0.take ((wrap64 (3 + (wrap64 (rd l0 2)))) : Int).toNat).drop 3))] 59 (0, 0)) (by (with_reducible repeat (first | refine blk_drewN ?_ _ | refine blk_drew ?_ | refine blk_alloc ?_ _)); refine blk_put (cs := #[.int .i64 (wrap64 (t139)), .string (⟨#[]⟩ : ByteArray)]) ?_ 1 _ rfl; (with_reducible repeat (first | refine blk_drewN ?_ _ | refine blk_drew ?_ | refine blk_alloc ?_ _)); refine blk_put (cs := #[.int .i64 0, .string (⟨#[]⟩ : ByteArray)]) ?_ 0 _ rfl; (with_reducible repeat (first | refine blk_drewN ?_ _ | refine blk_drew ?_ | refine blk_alloc ?_ _)); exact BK144.out) hb); have n2_ := Aside0.mk (below_step (by repeat (first | (with_reducible first | exact HB.out | apply below_alloc | apply pw_below_drewN | apply below_drew1 | refine below_set ?_ GE138.out | refine below_set ?_ GE144.out) | exact HB.out)) hb); clear BK138; clear BK144; clear HB; have BK138 := n0_; have BK144 := n1_; have HB := n2_; clear n0_ n1_ n2_; (try clear hb); (try clear hb2); (try clear hk); (try clear hi); have hcz24_0 : w23.cell? ⟨gb144, 0, none⟩ = some (.int .i64 (wrap64 (t139))) := (blk_cell BK144.out 0).trans rfl; have hcz24_1 : w23.cell? ⟨gb144, 1, none⟩ = some (.string (strOfNums ((l0.take ((wrap64 (3 + (wrap64 (rd l0 2)))) : Int).toNat).drop 3))) := (blk_cell BK144.out 1).trans rfl; have hfz24_0 := blk_frozen BK144.out 0; have hfz24_1 := blk_frozen BK144.out 1) | (go_at_call 75; (with_reducible refine (dirent_Bytes.calls kj2 (wrap64 (t139)) (strOfNums ((l0.take ((wrap64 (3 + (wrap64 (rd l0 2)))) : Int).toNat).drop 3)) t146 _ A15.out).mono ?_); rintro e w25 ⟨v147, rfl, ho0, hb⟩; have n0_ := Aside0.mk (Kd.R_lower ho0 (below_size (by repeat (first | (with_reducible first | exact HB.out | apply below_alloc | apply pw_below_drewN | apply below_drew1 | refine below_set ?_ GE138.out | refine below_set ?_ GE144.out) | exact HB.out)))); have n1_ := Aside0.mk (blk_below (g := gb138) (o := .cells #[.int .i64 0, .string (⟨#[]⟩ : ByteArray)] 59 (0, 0)) (by (with_reducible repeat (first | refine blk_drewN ?_ _ | refine blk_drew ?_ | refine blk_alloc ?_ _)); exact BK138.out) hb); have n2_ := Aside0.mk (blk_below (g := gb144) (o := .cells #[.int .i64 (wrap64 (t139)), .string (strOfNums ((l0.take ((wrap64 (3 + (wrap64 (rd l0 2)))) : Int).toNat).drop 3))] 59 (0, 0)) (by (with_reducible repeat (first | refine blk_drewN ?_ _ | refine blk_drew ?_ | refine blk_alloc ?_ _)); exact BK144.out) hb); have n3_ := Aside0.mk (below_step (by repeat (first | (with_reducible first | exact HB.out | apply below_alloc | apply pw_below_drewN | apply below_drew1 | refine below_set ?_ GE138.out | refine below_set ?_ GE144.out) | exact HB.out)) hb); clear BK138; clear BK144; clear HB; have HO148 := n0_; have BK138 := n1_; have BK144 := n2_; have HB := n3_; clear n0_ n1_ n2_ n3_; (try clear hb); (try clear hb2); (try clear hk); (try clear hi); (try clear ho0); obtain ⟨Ao26, co26, eo26⟩ := Kd.R_slice HO148.out; subst eo26) | (go_at_call 72; (with_reducible refine (bytes_Equal.calls _ _ t146 _ _ l0 true _ ?side1 ?side2 ?side3 ?side4 A16.out).mono ?_); (case side1 => repeat (first | exact (Kd.R_reads' HO148.out).2.2 | (with_reducible refine Kd.C_alloc ?_ _) | (with_reducible refine Kd.C_drewN ?_ _) | (with_reducible refine Kd.C_drew ?_))); (case side2 => exact (Kd.R_reads' HO148.out).2.1); (case side3 => repeat (first | exact (Kd.C_below HR0.out HB.out) | (with_reducible refine Kd.C_alloc ?_ _) | (with_reducible refine Kd.C_drewN ?_ _) | (with_reducible refine Kd.C_drew ?_))); (case side4 => exact HC0.out); rintro e w' ⟨rfl, ⟨nd, rfl⟩⟩; (try (rw [drewN_self w25]; generalize hq_ : World.drewN w25 _ = w25; have n0_ : Aside0 (Kd.R (Kd.int .u8) 5 w25 w.heap.size (fun _ => True) (.slice Ao26 t146.length co26) t146) := ⟨by rw [← hq_]; exact (by (with_reducible repeat (first | apply Kd.R_alloc | apply Kd.R_drewN | apply Kd.R_drew)); exact HO148.out)⟩; have n1_ : Aside0 (w25.heap[gb138]? = some (.cells #[.int .i64 0, .string (⟨#[]⟩ : ByteArray)] 59 (0, 0))) := ⟨by rw [← hq_]; exact (by (with_reducible repeat (first | refine blk_drewN ?_ _ | refine blk_drew ?_ | refine blk_alloc ?_ _)); exact BK138.out)⟩; have n2_ : Aside0 (w25.heap[gb144]? = some (.cells #[.int .i64 (wrap64 (t139)), .string (strOfNums ((l0.take ((wrap64 (3 + (wrap64 (rd l0 2)))) : Int).toNat).drop 3))] 59 (0, 0))) := ⟨by rw [← hq_]; exact (by (with_reducible repeat (first | refine blk_drewN ?_ _ | refine blk_drew ?_ | refine blk_alloc ?_ _)); exact BK144.out)⟩; have n3_ : Aside0 (Below w.heap.size w w25) := ⟨by rw [← hq_]; exact (by repeat (first | (with_reducible first | exact HB.out | apply below_alloc | apply pw_below_drewN | apply below_drew1 | refine below_set ?_ GE138.out | refine below_set ?_ GE144.out) | exact HB.out))⟩; clear HO148 BK138 BK144 HB hq_; have HO148 := n0_; have BK138 := n1_; have BK144 := n2_; have HB := n3_; clear n0_ n1_ n2_ n3_)); have hcz27_0 : w25.cell? ⟨gb144, 0, none⟩ = some (.int .i64 (wrap64 (t139))) := (blk_cell BK144.out 0).trans rfl; have hcz27_1 : w25.cell? ⟨gb144, 1, none⟩ = some (.string (strOfNums ((l0.take ((wrap64 (3 + (wrap64 (rd l0 2)))) : Int).toNat).drop 3))) := (blk_cell BK144.out 1).trans rfl; have hfz27_0 := blk_frozen BK144.out 0; have hfz27_1 := blk_frozen BK144.out 1; have hcz28_0 : w25.cell? ⟨gb138, 0, none⟩ = some (.int .i64 0) := (blk_cell BK138.out 0).trans rfl; have hcz28_1 : w25.cell? ⟨gb138, 1, none⟩ = some (.string (⟨#[]⟩ : ByteArray)) := (blk_cell BK138.out 1).trans rfl; have hfz28_0 := blk_frozen BK138.out 0; have hfz28_1 := blk_frozen BK138.out 1))
                  refine bodyPost_ret (results_ct rfl _ _ gb138 59 #[.int .i64 (wrap64 (t139)), .string (strOfNums ((l0.take ((wrap64 (3 + (wrap64 (rd l0 2)))) : Int).toNat).drop 3))] (0, 0) _ rfl (by (with_reducible repeat (first | refine blk_drewN ?_ _ | refine blk_drew ?_ | refine blk_alloc ?_ _)); refine blk_put (cs := #[.int .i64 (wrap64 (t139)), .string (⟨#[]⟩ : ByteArray)]) ?_ 1 _ rfl; (with_reducible repeat (first | refine blk_drewN ?_ _ | refine blk_drew ?_ | refine blk_alloc ?_ _)); refine blk_put (cs := #[.int .i64 0, .string (⟨#[]⟩ : ByteArray)]) ?_ 0 _ rfl; (with_reducible repeat (first | refine blk_drewN ?_ _ | refine blk_drew ?_ | refine blk_alloc ?_ _)); exact BK138.out) Try.underlying59 rfl (by kernel_rfl)) rfl ?_
                  exact ⟨by first | rfl | (simp [errW_none, errW_some] <;> rfl) | (simp [*, errW_none, errW_some] <;> rfl), by repeat (first | (with_reducible first | exact HB.out | apply below_alloc | apply pw_below_drewN | apply below_drew1 | refine below_set ?_ GE138.out | refine below_set ?_ GE144.out) | exact HB.out)⟩
                · replace c17 := Bool.eq_false_iff.mpr c17
                  subst c17
                  have H1 : (some (0, (⟨#[]⟩ : ByteArray), false)) = some (r1, r2, r3) := by rw [if_neg (show ¬ (false = true) by decide)] at H; exact H
                  clear H
                  have H := H1
                  clear H1
                  simp only [Option.some.injEq, Prod.mk.injEq] at H
                  obtain ⟨rfl, rfl, rfl⟩ := H
                  have p142 : 0 ≤ (2 : Int) := (by omega)
                  have q142 : 2 < (l0.length : Int) := of_decide_eq_true (by first | (with_reducible assumption) | assumption)
                  obtain ⟨ad142, e142, hx142_0⟩ := Kd.at_int HR0.out 2 p142 q142
                  cases e142
                  (try simp only [show (2 : Int).toNat = 2 from rfl, Nat.reduceMul, Nat.reduceEqDiff, Go.Addr.add, ↓reduceIte] at hx142_0)
                  have qi142 : (2 < l0.length) = True := eq_true (by omega)
                  (try rw [show ((2 : Int)).toNat = 2 from rfl] at hx142_0)
                  replace hx142_0 := (HB.out.cell (World.block_lt_of_cell? w _ hx142_0)).trans hx142_0
                  replace p142 := eq_true p142
                  replace q142 := eq_true q142
                  obtain ⟨i029, hi029, _, hsz29, _⟩ := info_parts info5
                  obtain ⟨A29, hcut29, hA29, hC29⟩ := print_mid_of (P := Try.prog) (Value.int .u8) 0 23 5 .i64 .i64 Try.underlying23 hi029 hsz29 (some ad142) c0 l0 3 (wrap64 (3 + (wrap64 (rd l0 2)))) (by omega) (by first | omega | exact of_decide_eq_true (by first | (with_reducible assumption) | assumption)) (of_decide_eq_true (by first | (with_reducible assumption) | assumption)) HC0.out
                  have HR143 := Aside0.mk (Kd.C_of_reads (h1 := fun _ => rfl) (hA29 _ (Kd.reads_of_C HR0.out)))
                  have HC143 := Aside0.mk hC29
                  clear hA29 hC29 hi029 hsz29
                  have hcv30 := Kd.C_string (P := Try.prog) (A := A29) (c := (c0 - 3)) Try.underlying23 Try.underlying5 Try.underlying9 (Kd.C_below HR143.out HB.out)
                  first | (have hcv30b := hcv30; simp only [List.length_drop, List.length_take] at hcv30b; rw [Nat.min_eq_left (by omega)] at hcv30b; (try rw [show Int.toNat 3 = 3 from rfl] at hcv30b)) | skip
                  go_wp2_with (first | ((with_reducible refine gate_dst (N := 6) rfl ?_); (try (refine gate_guard (by rfl) ?_; dsimp only)); refine box_event ?hg (N := 6) ?hd (cs := #[.int .i64 0, .string (⟨#[]⟩ : ByteArray)]) (t := 59) ?hr ?_; (case hd => rfl); (case hg => rfl); (case hr => first | (go_simp; done) | (go_simp; rfl)); intro gb144 hg w31 hbox hb; have n0_ := Aside0.mk (blk_below (g := gb138) (o := .cells #[.int .i64 0, .string (⟨#[]⟩ : ByteArray)] 59 (0, 0)) (by (with_reducible repeat (first | refine blk_drewN ?_ _ | refine blk_drew ?_ | refine blk_alloc ?_ _)); exact BK138.out) hb); have n1_ := Aside0.mk (below_step (by repeat (first | (with_reducible first | exact HB.out | apply below_alloc | apply pw_below_drewN | apply below_drew1 | refine below_set ?_ GE138.out) | exact HB.out)) hb); have n2_ := Aside0.mk (hbox); have n3_ := Aside0.mk ((by rw [hg]; exact (below_size (by repeat (first | (with_reducible first | exact HB.out | apply below_alloc | apply pw_below_drewN | apply below_drew1 | refine below_set ?_ GE138.out) | exact HB.out))) : w.heap.size ≤ gb144)); have n4_ := Aside0.mk ((by rw [hg]; exact (below_size (by repeat (first | (with_reducible first | exact HB.out | apply below_alloc | apply pw_below_drewN | apply below_drew1 | refine below_set ?_ GE138.out) | exact HB.out))) : w.heap.size ≤ gb144)); have n5_ := Aside0.mk ((by rw [hg]; exact Nat.ne_of_lt (blk_lt (g := gb138) (o := .cells #[.int .i64 0, .string (⟨#[]⟩ : ByteArray)] 59 (0, 0)) (by (with_reducible repeat (first | refine blk_drewN ?_ _ | refine blk_drew ?_ | refine blk_alloc ?_ _)); exact BK138.out)) : gb138 ≠ gb144)); have n6_ := Aside0.mk ((by rw [hg]; exact Nat.ne_of_gt (blk_lt (g := gb138) (o := .cells #[.int .i64 0, .string (⟨#[]⟩ : ByteArray)] 59 (0, 0)) (by (with_reducible repeat (first | refine blk_drewN ?_ _ | refine blk_drew ?_ | refine blk_alloc ?_ _)); exact BK138.out)) : gb144 ≠ gb138)); clear BK138; clear HB; have BK138 := n0_; have HB := n1_; have BK144 := n2_; have GW144 := n3_; have GE144 := n4_; have NB138_144 := n5_; have NB144_138 := n6_; clear n0_ n1_ n2_ n3_ n4_ n5_ n6_; clear hb hbox hg; have hnb32 := NB144_138.out; have hnc32 := NB138_144.out; have hcz33_0 : w31.cell? ⟨gb144, 0, none⟩ = some (.int .i64 0) := (blk_cell BK144.out 0).trans rfl; have hcz33_1 : w31.cell? ⟨gb144, 1, none⟩ = some (.string (⟨#[]⟩ : ByteArray)) := (blk_cell BK144.out 1).trans rfl; have hfz33_0 := blk_frozen BK144.out 0; have hfz33_1 := blk_frozen BK144.out 1) | ((with_reducible refine gate_callee (f := 33) rfl ?_); refine goesL_ (some 39) rfl rfl Try.func33 (by kernel_rfl) rfl #[.agg #[.int .i64 (wrap64 (t139)), .string (strOfNums ((l0.take ((wrap64 (3 + (wrap64 (rd l0 2)))) : Int).toNat).drop 3))]] rfl (by (try simp only [List.map_toArray, List.map_cons, List.map_nil]); first | done | rfl | (simp only [List.length_drop, List.length_take]; rfl)) ?_; (with_reducible refine (dirent_Formed.calls (wrap64 (t139)) (strOfNums ((l0.take ((wrap64 (3 + (wrap64 (rd l0 2)))) : Int).toNat).drop 3)) true _ A13.out).mono ?_); rintro e w34 ⟨rfl, hb⟩; refine ⟨_, rfl, ?_⟩; have n0_ := Aside0.mk (blk_below (g := gb138) (o := .cells #[.int .i64 0, .string (⟨#[]⟩ : ByteArray)] 59 (0, 0)) (by (with_reducible repeat (first | refine blk_drewN ?_ _ | refine blk_drew ?_ | refine blk_alloc ?_ _)); refine blk_far ?_ NB138_144.out _; (with_reducible repeat (first | refine blk_drewN ?_ _ | refine blk_drew ?_ | refine blk_alloc ?_ _)); refine blk_far ?_ NB138_144.out _; (with_reducible repeat (first | refine blk_drewN ?_ _ | refine blk_drew ?_ | refine blk_alloc ?_ _)); exact BK138.out) hb); have n1_ := Aside0.mk (blk_below (g := gb144) (o := .cells #[.int .i64 (wrap64 (t139)), .string (strOfNums ((l0.take ((wrap64 (3 + (wrap64 (rd l0 2)))) : Int).toNat).drop 3))] 59 (0, 0)) (by (with_reducible repeat (first | refine blk_drewN ?_ _ | refine blk_drew ?_ | refine blk_alloc ?_ _)); refine blk_put (cs := #[.int .i64 (wrap64 (t139)), .string (⟨#[]⟩ : ByteArray)]) ?_ 1 _ rfl; (with_reducible repeat (first | refine blk_drewN ?_ _ | refine blk_drew ?_ | refine blk_alloc ?_ _)); refine blk_put (cs := #[.int .i64 0, .string (⟨#[]⟩ : ByteArray)]) ?_ 0 _ rfl; (with_reducible repeat (first | refine blk_drewN ?_ _ | refine blk_drew ?_ | refine blk_alloc ?_ _)); exact BK144.out) hb); have n2_ := Aside0.mk (below_step (by repeat (first | (with_reducible first | exact HB.out | apply below_alloc | apply pw_below_drewN | apply below_drew1 | refine below_set ?_ GE138.out | refine below_set ?_ GE144.out) | exact HB.out)) hb); clear BK138; clear BK144; clear HB; have BK138 := n0_; have BK144 := n1_; have HB := n2_; clear n0_ n1_ n2_; (try clear hb); (try clear hb2); (try clear hk); (try clear hi); have hcz35_0 : w34.cell? ⟨gb144, 0, none⟩ = some (.int .i64 (wrap64 (t139))) := (blk_cell BK144.out 0).trans rfl; have hcz35_1 : w34.cell? ⟨gb144, 1, none⟩ = some (.string (strOfNums ((l0.take ((wrap64 (3 + (wrap64 (rd l0 2)))) : Int).toNat).drop 3))) := (blk_cell BK144.out 1).trans rfl; have hfz35_0 := blk_frozen BK144.out 0; have hfz35_1 := blk_frozen BK144.out 1) | (go_at_call 75; (with_reducible refine (dirent_Bytes.calls kj2 (wrap64 (t139)) (strOfNums ((l0.take ((wrap64 (3 + (wrap64 (rd l0 2)))) : Int).toNat).drop 3)) t146 _ A15.out).mono ?_); rintro e w36 ⟨v147, rfl, ho0, hb⟩; have n0_ := Aside0.mk (Kd.R_lower ho0 (below_size (by repeat (first | (with_reducible first | exact HB.out | apply below_alloc | apply pw_below_drewN | apply below_drew1 | refine below_set ?_ GE138.out | refine below_set ?_ GE144.out) | exact HB.out)))); have n1_ := Aside0.mk (blk_below (g := gb138) (o := .cells #[.int .i64 0, .string (⟨#[]⟩ : ByteArray)] 59 (0, 0)) (by (with_reducible repeat (first | refine blk_drewN ?_ _ | refine blk_drew ?_ | refine blk_alloc ?_ _)); exact BK138.out) hb); have n2_ := Aside0.mk (blk_below (g := gb144) (o := .cells #[.int .i64 (wrap64 (t139)), .string (strOfNums ((l0.take ((wrap64 (3 + (wrap64 (rd l0 2)))) : Int).toNat).drop 3))] 59 (0, 0)) (by (with_reducible repeat (first | refine blk_drewN ?_ _ | refine blk_drew ?_ | refine blk_alloc ?_ _)); exact BK144.out) hb); have n3_ := Aside0.mk (below_step (by repeat (first | (with_reducible first | exact HB.out | apply below_alloc | apply pw_below_drewN | apply below_drew1 | refine below_set ?_ GE138.out | refine below_set ?_ GE144.out) | exact HB.out)) hb); clear BK138; clear BK144; clear HB; have HO148 := n0_; have BK138 := n1_; have BK144 := n2_; have HB := n3_; clear n0_ n1_ n2_ n3_; (try clear hb); (try clear hb2); (try clear hk); (try clear hi); (try clear ho0); obtain ⟨Ao37, co37, eo37⟩ := Kd.R_slice HO148.out; subst eo37) | (go_at_call 72; (with_reducible refine (bytes_Equal.calls _ _ t146 _ _ l0 false _ ?side1 ?side2 ?side3 ?side4 A16.out).mono ?_); (case side1 => repeat (first | exact (Kd.R_reads' HO148.out).2.2 | (with_reducible refine Kd.C_alloc ?_ _) | (with_reducible refine Kd.C_drewN ?_ _) | (with_reducible refine Kd.C_drew ?_))); (case side2 => exact (Kd.R_reads' HO148.out).2.1); (case side3 => repeat (first | exact (Kd.C_below HR0.out HB.out) | (with_reducible refine Kd.C_alloc ?_ _) | (with_reducible refine Kd.C_drewN ?_ _) | (with_reducible refine Kd.C_drew ?_))); (case side4 => exact HC0.out); rintro e w' ⟨rfl, ⟨nd, rfl⟩⟩; (try (rw [drewN_self w36]; generalize hq_ : World.drewN w36 _ = w36; have n0_ : Aside0 (Kd.R (Kd.int .u8) 5 w36 w.heap.size (fun _ => True) (.slice Ao37 t146.length co37) t146) := ⟨by rw [← hq_]; exact (by (with_reducible repeat (first | apply Kd.R_alloc | apply Kd.R_drewN | apply Kd.R_drew)); exact HO148.out)⟩; have n1_ : Aside0 (w36.heap[gb138]? = some (.cells #[.int .i64 0, .string (⟨#[]⟩ : ByteArray)] 59 (0, 0))) := ⟨by rw [← hq_]; exact (by (with_reducible repeat (first | refine blk_drewN ?_ _ | refine blk_drew ?_ | refine blk_alloc ?_ _)); exact BK138.out)⟩; have n2_ : Aside0 (w36.heap[gb144]? = some (.cells #[.int .i64 (wrap64 (t139)), .string (strOfNums ((l0.take ((wrap64 (3 + (wrap64 (rd l0 2)))) : Int).toNat).drop 3))] 59 (0, 0))) := ⟨by rw [← hq_]; exact (by (with_reducible repeat (first | refine blk_drewN ?_ _ | refine blk_drew ?_ | refine blk_alloc ?_ _)); exact BK144.out)⟩; have n3_ : Aside0 (Below w.heap.size w w36) := ⟨by rw [← hq_]; exact (by repeat (first | (with_reducible first | exact HB.out | apply below_alloc | apply pw_below_drewN | apply below_drew1 | refine below_set ?_ GE138.out | refine below_set ?_ GE144.out) | exact HB.out))⟩; clear HO148 BK138 BK144 HB hq_; have HO148 := n0_; have BK138 := n1_; have BK144 := n2_; have HB := n3_; clear n0_ n1_ n2_ n3_)); have hcz38_0 : w36.cell? ⟨gb138, 0, none⟩ = some (.int .i64 0) := (blk_cell BK138.out 0).trans rfl; have hcz38_1 : w36.cell? ⟨gb138, 1, none⟩ = some (.string (⟨#[]⟩ : ByteArray)) := (blk_cell BK138.out 1).trans rfl; have hfz38_0 := blk_frozen BK138.out 0; have hfz38_1 := blk_frozen BK138.out 1))
                  refine bodyPost_ret (results_ct rfl _ _ gb138 59 #[.int .i64 0, .string (⟨#[]⟩ : ByteArray)] (0, 0) _ rfl (by (with_reducible repeat (first | refine blk_drewN ?_ _ | refine blk_drew ?_ | refine blk_alloc ?_ _)); refine blk_put (cs := #[.int .i64 0, .string (⟨#[]⟩ : ByteArray)]) ?_ 1 _ rfl; (with_reducible repeat (first | refine blk_drewN ?_ _ | refine blk_drew ?_ | refine blk_alloc ?_ _)); refine blk_put (cs := #[.int .i64 0, .string (⟨#[]⟩ : ByteArray)]) ?_ 0 _ rfl; (with_reducible repeat (first | refine blk_drewN ?_ _ | refine blk_drew ?_ | refine blk_alloc ?_ _)); exact BK138.out) Try.underlying59 rfl (by kernel_rfl)) rfl ?_
                  exact ⟨by first | rfl | (simp [errW_none, errW_some] <;> rfl) | (simp [*, errW_none, errW_some] <;> rfl), by repeat (first | (with_reducible first | exact HB.out | apply below_alloc | apply pw_below_drewN | apply below_drew1 | refine below_set ?_ GE138.out | refine below_set ?_ GE144.out) | exact HB.out)⟩
              · replace c14 := Bool.eq_false_iff.mpr c14
                subst c14
                have H1 : (some (0, (⟨#[]⟩ : ByteArray), false)) = some (r1, r2, r3) := by rw [if_neg (show ¬ (false = true) by decide)] at H; exact H
                clear H
                have H := H1
                clear H1
                simp only [Option.some.injEq, Prod.mk.injEq] at H
                obtain ⟨rfl, rfl, rfl⟩ := H
                have p142 : 0 ≤ (2 : Int) := (by omega)
                have q142 : 2 < (l0.length : Int) := of_decide_eq_true (by first | (with_reducible assumption) | assumption)
                obtain ⟨ad142, e142, hx142_0⟩ := Kd.at_int HR0.out 2 p142 q142
                cases e142
                (try simp only [show (2 : Int).toNat = 2 from rfl, Nat.reduceMul, Nat.reduceEqDiff, Go.Addr.add, ↓reduceIte] at hx142_0)
                have qi142 : (2 < l0.length) = True := eq_true (by omega)
                (try rw [show ((2 : Int)).toNat = 2 from rfl] at hx142_0)
                replace hx142_0 := (HB.out.cell (World.block_lt_of_cell? w _ hx142_0)).trans hx142_0
                replace p142 := eq_true p142
                replace q142 := eq_true q142
                obtain ⟨i039, hi039, _, hsz39, _⟩ := info_parts info5
                obtain ⟨A39, hcut39, hA39, hC39⟩ := print_mid_of (P := Try.prog) (Value.int .u8) 0 23 5 .i64 .i64 Try.underlying23 hi039 hsz39 (some ad142) c0 l0 3 (wrap64 (3 + (wrap64 (rd l0 2)))) (by omega) (by first | omega | exact of_decide_eq_true (by first | (with_reducible assumption) | assumption)) (of_decide_eq_true (by first | (with_reducible assumption) | assumption)) HC0.out
                have HR143 := Aside0.mk (Kd.C_of_reads (h1 := fun _ => rfl) (hA39 _ (Kd.reads_of_C HR0.out)))
                have HC143 := Aside0.mk hC39
                clear hA39 hC39 hi039 hsz39
                have hcv40 := Kd.C_string (P := Try.prog) (A := A39) (c := (c0 - 3)) Try.underlying23 Try.underlying5 Try.underlying9 (Kd.C_below HR143.out HB.out)
                first | (have hcv40b := hcv40; simp only [List.length_drop, List.length_take] at hcv40b; rw [Nat.min_eq_left (by omega)] at hcv40b; (try rw [show Int.toNat 3 = 3 from rfl] at hcv40b)) | skip
                go_wp2_with (first | ((with_reducible refine gate_dst (N := 6) rfl ?_); (try (refine gate_guard (by rfl) ?_; dsimp only)); refine box_event ?hg (N := 6) ?hd (cs := #[.int .i64 0, .string (⟨#[]⟩ : ByteArray)]) (t := 59) ?hr ?_; (case hd => rfl); (case hg => rfl); (case hr => first | (go_simp; done) | (go_simp; rfl)); intro gb144 hg w41 hbox hb; have n0_ := Aside0.mk (blk_below (g := gb138) (o := .cells #[.int .i64 0, .string (⟨#[]⟩ : ByteArray)] 59 (0, 0)) (by (with_reducible repeat (first | refine blk_drewN ?_ _ | refine blk_drew ?_ | refine blk_alloc ?_ _)); exact BK138.out) hb); have n1_ := Aside0.mk (below_step (by repeat (first | (with_reducible first | exact HB.out | apply below_alloc | apply pw_below_drewN | apply below_drew1 | refine below_set ?_ GE138.out) | exact HB.out)) hb); have n2_ := Aside0.mk (hbox); have n3_ := Aside0.mk ((by rw [hg]; exact (below_size (by repeat (first | (with_reducible first | exact HB.out | apply below_alloc | apply pw_below_drewN | apply below_drew1 | refine below_set ?_ GE138.out) | exact HB.out))) : w.heap.size ≤ gb144)); have n4_ := Aside0.mk ((by rw [hg]; exact (below_size (by repeat (first | (with_reducible first | exact HB.out | apply below_alloc | apply pw_below_drewN | apply below_drew1 | refine below_set ?_ GE138.out) | exact HB.out))) : w.heap.size ≤ gb144)); have n5_ := Aside0.mk ((by rw [hg]; exact Nat.ne_of_lt (blk_lt (g := gb138) (o := .cells #[.int .i64 0, .string (⟨#[]⟩ : ByteArray)] 59 (0, 0)) (by (with_reducible repeat (first | refine blk_drewN ?_ _ | refine blk_drew ?_ | refine blk_alloc ?_ _)); exact BK138.out)) : gb138 ≠ gb144)); have n6_ := Aside0.mk ((by rw [hg]; exact Nat.ne_of_gt (blk_lt (g := gb138) (o := .cells #[.int .i64 0, .string (⟨#[]⟩ : ByteArray)] 59 (0, 0)) (by (with_reducible repeat (first | refine blk_drewN ?_ _ | refine blk_drew ?_ | refine blk_alloc ?_ _)); exact BK138.out)) : gb144 ≠ gb138)); clear BK138; clear HB; have BK138 := n0_; have HB := n1_; have BK144 := n2_; have GW144 := n3_; have GE144 := n4_; have NB138_144 := n5_; have NB144_138 := n6_; clear n0_ n1_ n2_ n3_ n4_ n5_ n6_; clear hb hbox hg; have hnb42 := NB144_138.out; have hnc42 := NB138_144.out; have hcz43_0 : w41.cell? ⟨gb144, 0, none⟩ = some (.int .i64 0) := (blk_cell BK144.out 0).trans rfl; have hcz43_1 : w41.cell? ⟨gb144, 1, none⟩ = some (.string (⟨#[]⟩ : ByteArray)) := (blk_cell BK144.out 1).trans rfl; have hfz43_0 := blk_frozen BK144.out 0; have hfz43_1 := blk_frozen BK144.out 1) | ((with_reducible refine gate_callee (f := 33) rfl ?_); refine goesL_ (some 39) rfl rfl Try.func33 (by kernel_rfl) rfl #[.agg #[.int .i64 (wrap64 (t139)), .string (strOfNums ((l0.take ((wrap64 (3 + (wrap64 (rd l0 2)))) : Int).toNat).drop 3))]] rfl (by (try simp only [List.map_toArray, List.map_cons, List.map_nil]); first | done | rfl | (simp only [List.length_drop, List.length_take]; rfl)) ?_; (with_reducible refine (dirent_Formed.calls (wrap64 (t139)) (strOfNums ((l0.take ((wrap64 (3 + (wrap64 (rd l0 2)))) : Int).toNat).drop 3)) false _ A13.out).mono ?_); rintro e w44 ⟨rfl, hb⟩; refine ⟨_, rfl, ?_⟩; have n0_ := Aside0.mk (blk_below (g := gb138) (o := .cells #[.int .i64 0, .string (⟨#[]⟩ : ByteArray)] 59 (0, 0)) (by (with_reducible repeat (first | refine blk_drewN ?_ _ | refine blk_drew ?_ | refine blk_alloc ?_ _)); refine blk_far ?_ NB138_144.out _; (with_reducible repeat (first | refine blk_drewN ?_ _ | refine blk_drew ?_ | refine blk_alloc ?_ _)); refine blk_far ?_ NB138_144.out _; (with_reducible repeat (first | refine blk_drewN ?_ _ | refine blk_drew ?_ | refine blk_alloc ?_ _)); exact BK138.out) hb); have n1_ := Aside0.mk (blk_below (g := gb144) (o := .cells #[.int .i64 (wrap64 (t139)), .string (strOfNums ((l0.take ((wrap64 (3 + (wrap64 (rd l0 2)))) : Int).toNat).drop 3))] 59 (0, 0)) (by (with_reducible repeat (first | refine blk_drewN ?_ _ | refine blk_drew ?_ | refine blk_alloc ?_ _)); refine blk_put (cs := #[.int .i64 (wrap64 (t139)), .string (⟨#[]⟩ : ByteArray)]) ?_ 1 _ rfl; (with_reducible repeat (first | refine blk_drewN ?_ _ | refine blk_drew ?_ | refine blk_alloc ?_ _)); refine blk_put (cs := #[.int .i64 0, .string (⟨#[]⟩ : ByteArray)]) ?_ 0 _ rfl; (with_reducible repeat (first | refine blk_drewN ?_ _ | refine blk_drew ?_ | refine blk_alloc ?_ _)); exact BK144.out) hb); have n2_ := Aside0.mk (below_step (by repeat (first | (with_reducible first | exact HB.out | apply below_alloc | apply pw_below_drewN | apply below_drew1 | refine below_set ?_ GE138.out | refine below_set ?_ GE144.out) | exact HB.out)) hb); clear BK138; clear BK144; clear HB; have BK138 := n0_; have BK144 := n1_; have HB := n2_; clear n0_ n1_ n2_; (try clear hb); (try clear hb2); (try clear hk); (try clear hi); have hcz45_0 : w44.cell? ⟨gb138, 0, none⟩ = some (.int .i64 0) := (blk_cell BK138.out 0).trans rfl; have hcz45_1 : w44.cell? ⟨gb138, 1, none⟩ = some (.string (⟨#[]⟩ : ByteArray)) := (blk_cell BK138.out 1).trans rfl; have hfz45_0 := blk_frozen BK138.out 0; have hfz45_1 := blk_frozen BK138.out 1))
                refine bodyPost_ret (results_ct rfl _ _ gb138 59 #[.int .i64 0, .string (⟨#[]⟩ : ByteArray)] (0, 0) _ rfl (by (with_reducible repeat (first | refine blk_drewN ?_ _ | refine blk_drew ?_ | refine blk_alloc ?_ _)); refine blk_put (cs := #[.int .i64 0, .string (⟨#[]⟩ : ByteArray)]) ?_ 1 _ rfl; (with_reducible repeat (first | refine blk_drewN ?_ _ | refine blk_drew ?_ | refine blk_alloc ?_ _)); refine blk_put (cs := #[.int .i64 0, .string (⟨#[]⟩ : ByteArray)]) ?_ 0 _ rfl; (with_reducible repeat (first | refine blk_drewN ?_ _ | refine blk_drew ?_ | refine blk_alloc ?_ _)); exact BK138.out) Try.underlying59 rfl (by kernel_rfl)) rfl ?_
                exact ⟨by first | rfl | (simp [errW_none, errW_some] <;> rfl) | (simp [*, errW_none, errW_some] <;> rfl), by repeat (first | (with_reducible first | exact HB.out | apply below_alloc | apply pw_below_drewN | apply below_drew1 | refine below_set ?_ GE138.out | refine below_set ?_ GE144.out) | exact HB.out)⟩
            · rw [if_neg c12] at H
              exact absurd H (by simp)
          · rw [if_neg c11] at H
            exact absurd H (by simp)
        · rw [if_neg c10] at H
          exact absurd H (by simp)

end Go.Proofs.Ytignifnkjlldpaa.PDirentOnce
