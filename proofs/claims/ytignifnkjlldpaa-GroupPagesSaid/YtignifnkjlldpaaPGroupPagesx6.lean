/- Written by a program of this session (xprint.py) out of the translation. What is proved, in the end: the Go law GroupPages answers true at every input, and its arguments read behind the call as before; no condition. -/
import Derived.Test.YtignifnkjlldpaaPGroupPagesx0
import Derived.Test.YtignifnkjlldpaaPGroupPagesx4
namespace Go.Proofs.Ytignifnkjlldpaa.PGroupPages
open Go.RowKit Go.Proofs.YtignifnkjlldpaaW.PrintWords Go.Proofs.YtignifnkjlldpaaW.PrintLast Go.Proofs.YtignifnkjlldpaaW.PrintMore
attribute [local go_sem] max2_int min2_int max_two min_two max_three min_three max_four min_four   -- for this text's walks alone
set_option linter.unusedVariables false
set_option linter.unusedSimpArgs false

/-! ### ashlarref05_Of: function 57 -/
mutual
def ashlarref05_Of.j0 : Nat → Int → List (S100) → Bool → Option (Int × List Bool × Int)
  | 0, _, _, _ => none
  | k + 1, x0, x1, x24 => if x24 = true then (some (0, ([] : List Bool), 1)) else (ashlarref05_Of.l0 k x1 (x1.length : Int) 0 x0 ([] : List Bool))
def ashlarref05_Of.l0 : Nat → List (S100) → Int → Int → Int → List Bool → Option (Int × List Bool × Int)
  | 0, _, _, _, _, _ => none
  | k + 1, x1, x29, x30, x180000, x180001 => if x30 < x29 then (if 0 ≤ x30 then (if x30 < (x1.length : Int) then (if x180001.length < 140737488355328 then (ashlarref05_Of.l0 k x1 x29 (wrap64 (x30 + 1)) x180000 (x180001 ++ [(((rd_T100 x1 x30).f0) != 0)])) else (none)) else (none)) else (none)) else (some (x180000, x180001, 0))
end
def ashlarref05_Of.f (k : Nat) (a0 : Int) (l1 : List (S100)) : Option (Int × List Bool × Int) := (ashlarref05_Page.f k l1).bind fun bt175 => (if a0 < 0 then (ashlarref05_Of.j0 k a0 l1 true) else (if a0 > 11 then (ashlarref05_Of.j0 k a0 l1 true) else (ashlarref05_Of.j0 k a0 l1 (bt175.2 != 0))))
theorem ashlarref05_Of.mono_l : ∀ k, (∀ y0 y1 y2, LeO (ashlarref05_Of.j0 k y0 y1 y2) (ashlarref05_Of.j0 (k + 1) y0 y1 y2)) ∧ (∀ y0 y1 y2 y3 y4, LeO (ashlarref05_Of.l0 k y0 y1 y2 y3 y4) (ashlarref05_Of.l0 (k + 1) y0 y1 y2 y3 y4))
  | 0 => ⟨fun _ _ _ r h => by simp [ashlarref05_Of.j0] at h, fun _ _ _ _ _ r h => by simp [ashlarref05_Of.l0] at h⟩
  | k + 1 => by
    obtain ⟨ih0, ih1⟩ := ashlarref05_Of.mono_l k
    refine ⟨?_, ?_⟩
    · intro y0 y1 y2
      unfold ashlarref05_Of.j0
      repeat' first
      | (with_reducible exact ih0 _ _ _)
      | (with_reducible exact ih1 _ _ _ _ _)
      | (with_reducible exact ashlarref05_Page.mono _ _)
      | (with_reducible exact LeO.refl _)
      | (with_reducible exact LeO.none _)
      | (with_reducible refine LeO.ite ?_ ?_)
      | (with_reducible refine LeO.bind ?_ (fun _ => ?_))
      | exact ih0 _ _ _
      | exact ih1 _ _ _ _ _
      | exact ashlarref05_Page.mono _ _
      | exact LeO.none _
      | refine LeO.ite ?_ ?_
      | refine LeO.bind ?_ (fun _ => ?_)
    · intro y0 y1 y2 y3 y4
      unfold ashlarref05_Of.l0
      repeat' first
      | (with_reducible exact ih0 _ _ _)
      | (with_reducible exact ih1 _ _ _ _ _)
      | (with_reducible exact ashlarref05_Page.mono _ _)
      | (with_reducible exact LeO.refl _)
      | (with_reducible exact LeO.none _)
      | (with_reducible refine LeO.ite ?_ ?_)
      | (with_reducible refine LeO.bind ?_ (fun _ => ?_))
      | exact ih0 _ _ _
      | exact ih1 _ _ _ _ _
      | exact ashlarref05_Page.mono _ _
      | exact LeO.none _
      | refine LeO.ite ?_ ?_
      | refine LeO.bind ?_ (fun _ => ?_)
theorem ashlarref05_Of.mono : ∀ a0 a1 k, LeO (ashlarref05_Of.f k a0 a1) (ashlarref05_Of.f (k + 1) a0 a1) := by
  intro a0 a1 k
  obtain ⟨ih0, ih1⟩ := ashlarref05_Of.mono_l k
  unfold ashlarref05_Of.f
  repeat' first
      | (with_reducible exact ih0 _ _ _)
      | (with_reducible exact ih1 _ _ _ _ _)
      | (with_reducible exact ashlarref05_Page.mono _ _)
      | (with_reducible exact LeO.refl _)
      | (with_reducible exact LeO.none _)
      | (with_reducible refine LeO.ite ?_ ?_)
      | (with_reducible refine LeO.bind ?_ (fun _ => ?_))
      | exact ih0 _ _ _
      | exact ih1 _ _ _ _ _
      | exact ashlarref05_Page.mono _ _
      | exact LeO.none _
      | refine LeO.ite ?_ ?_
      | refine LeO.bind ?_ (fun _ => ?_)
def ashlarref05_Of.T8 : Bool × List (List Nat × List Nat) := (true, [([], []), ([0], [0]), ([], []), ([], []), ([2, 3], [2, 3]), ([4], [4]), ([5], [5]), ([6], [6]), ([7], [7]), ([1, 8], [1, 8]), ([0, 1, 2, 3, 4, 5, 6, 7, 8, 9], []), ([10, 9, 9, 0, 1, 2, 3, 4, 5, 6, 7, 8, 9], [9, 10])])
def ashlarref05_Of.B8 : List Nat := [0, 1, 0, 0, 12, 28, 60, 124, 252, 511, 1023, 2047]
theorem ashlarref05_Of.tab8 : rtab .any (opsOf Try.f57 8) = ashlarref05_Of.T8 := by kernel_rfl
theorem ashlarref05_Of.bits8 : waitsOk ashlarref05_Of.T8.2 ashlarref05_Of.B8 = true := by kernel_rfl
set_option maxHeartbeats 8000000 in
set_option maxRecDepth 100000 in
theorem ashlarref05_Of.calls (k : Nat) (a0 : Int) (A1 : Option Addr) (c1 : Nat) (l1 : List (S100)) (r1 : Int) (r2 : List Bool) (r3 : Int) (w : World) (hr1 : Kd.C k100 w A1 l1.length l1) (hc1 : l1.length ≤ c1) (h : ashlarref05_Of.f k a0 l1 = some (r1, r2, r3)) :
    Calls Try.prog 57 #[.int .i64 a0, .slice A1 l1.length c1] w fun e w' => ∃ v1_ : Value, e = .returned (.tuple #[.agg #[.int .i64 r1, v1_], .int .i64 r3]) ∧ Kd.R Kd.bool 4 w' w.heap.size (fun _ => True) v1_ r2 ∧ Below w.heap.size w w' := by
  have hu105 := Try.underlying105
  have HR1 := Aside0.mk hr1
  have HC1 := Aside0.mk hc1
  clear hr1 hc1
  have HB := Aside0.mk (Below.refl w.heap.size w)
  have H : ((ashlarref05_Page.f k l1).bind fun bt175 => (if a0 < 0 then (ashlarref05_Of.j0 k a0 l1 true) else (if a0 > 11 then (ashlarref05_Of.j0 k a0 l1 true) else (ashlarref05_Of.j0 k a0 l1 (bt175.2 != 0))))) = some (r1, r2, r3) := h
  clear h
  replace H := Option.bind_eq_some_iff.mp H
  obtain ⟨⟨t175, t176⟩, A30, H⟩ := H
  replace H : (if a0 < 0 then (ashlarref05_Of.j0 k a0 l1 true) else (if a0 > 11 then (ashlarref05_Of.j0 k a0 l1 true) else (ashlarref05_Of.j0 k a0 l1 (t176 != 0)))) = some (r1, r2, r3) := H
  have A3 := Aside0.mk A30
  clear A30
  have HC4 := Aside0.mk H
  clear H
  go_enter Try.func57, Try.ntmps57
  go_upto_region 2 with (first | ((with_reducible refine gate_dst (N := 4) rfl ?_); refine box_event ?hg (N := 4) ?hd (cs := #[.int .i64 0, .slice none 0 0]) (t := 105) ?hr ?_; (case hd => rfl); (case hg => rfl); (case hr => first | (go_simp; done) | (go_simp; rfl)); intro gb174 hg w5 hbox hb; have n0_ := Aside0.mk (below_step (by repeat (first | (with_reducible first | exact HB.out | apply below_alloc | apply pw_below_drewN | apply below_drew1) | exact HB.out)) hb); have n1_ := Aside0.mk (hbox); have n2_ := Aside0.mk ((by rw [hg]; exact (below_size (by repeat (first | (with_reducible first | exact HB.out | apply below_alloc | apply pw_below_drewN | apply below_drew1) | exact HB.out))) : w.heap.size ≤ gb174)); have n3_ := Aside0.mk ((by rw [hg]; exact (below_size (by repeat (first | (with_reducible first | exact HB.out | apply below_alloc | apply pw_below_drewN | apply below_drew1) | exact HB.out))) : w.heap.size ≤ gb174)); clear HB; have HB := n0_; have BK174 := n1_; have GW174 := n2_; have GE174 := n3_; clear n0_ n1_ n2_ n3_; clear hb hbox hg) | ((with_reducible refine gate_callee (f := 50) rfl ?_); refine goesL_ (some 12) rfl rfl Try.func50 (by kernel_rfl) rfl #[.slice A1 l1.length c1] rfl (by (try simp only [List.map_toArray, List.map_cons, List.map_nil]); first | done | rfl | (simp only [List.length_drop, List.length_take]; rfl)) ?_; (with_reducible refine (ashlarref05_Page.calls k _ _ l1 t175 t176 _ ?side1 ?side2 A3.out).mono ?_); (case side1 => repeat (first | exact (Kd.C_below HR1.out HB.out) | (with_reducible refine Kd.C_alloc ?_ _) | (with_reducible refine Kd.C_drewN ?_ _) | (with_reducible refine Kd.C_drew ?_))); (case side2 => exact HC1.out); rintro e w6 ⟨v177, rfl, ho0, hb⟩; refine ⟨_, rfl, ?_⟩; have n0_ := Aside0.mk (Kd.R_lower ho0 (below_size (by repeat (first | (with_reducible first | exact HB.out | apply below_alloc | apply pw_below_drewN | apply below_drew1 | refine below_set ?_ GE174.out) | exact HB.out)))); have n1_ := Aside0.mk (blk_below (g := gb174) (o := .cells #[.int .i64 0, .slice none 0 0] 105 (0, 0)) (by (with_reducible repeat (first | refine blk_drewN ?_ _ | refine blk_drew ?_ | refine blk_alloc ?_ _)); exact BK174.out) hb); have n2_ := Aside0.mk (below_step (by repeat (first | (with_reducible first | exact HB.out | apply below_alloc | apply pw_below_drewN | apply below_drew1 | refine below_set ?_ GE174.out) | exact HB.out)) hb); clear BK174; clear HB; have HO178 := n0_; have BK174 := n1_; have HB := n2_; clear n0_ n1_ n2_; (try clear hb); (try clear hb2); (try clear hk); (try clear hi); (try clear ho0)))
  (try simp only [Act.put, List.setIfInBounds_toArray, List.set_cons_zero, List.set_cons_succ])
  go_cut [24] (fun v24 wc => ∃ (kq : Nat) (x24_3 : Bool), v24 = .bool x24_3 ∧ Aside0 (ashlarref05_Of.j0 kq a0 l1 x24_3 = some (r1, r2, r3)) ∧ Aside0 (kq ≤ k) ∧ Aside0 (wc.heap[gb174]? = some (.cells #[.int .i64 0, (.slice none 0 0)] 105 (0, 0))) ∧ Aside0 (Below w.heap.size w wc))
  case first =>
    have H := HC4.out
    clear HC4
    by_cases c7 : a0 < 0
    · rw [if_pos c7] at H
      have c7b0 : decide (a0 < 0) = true := decide_eq_true c7
      clear c7
      (first | rw [c7b0] | (simp only [i64_w, i32_w]; rw [c7b0]) | skip)
      have H' := Aside0.mk H
      clear H
      go_wp2
      go_meet
      case rel => exact ⟨_, (true), (by first | rfl | (simp; done) | (simp [*]; done)), H', ⟨by first | omega | exact Nat.le_refl _⟩, ⟨by (with_reducible repeat (first | refine blk_drewN ?_ _ | refine blk_drew ?_ | refine blk_alloc ?_ _)); exact BK174.out⟩, ⟨by repeat (first | (with_reducible first | exact HB.out | apply below_alloc | apply pw_below_drewN | apply below_drew1 | refine below_set ?_ GE174.out) | exact HB.out)⟩⟩
    · rw [if_neg c7] at H
      have c7b0 : decide (a0 < 0) = false := decide_eq_false c7
      clear c7
      (first | rw [c7b0] | (simp only [i64_w, i32_w]; rw [c7b0]) | skip)
      by_cases c8 : a0 > 11
      · rw [if_pos c8] at H
        have c8b0 : decide (11 < a0) = true := decide_eq_true c8
        clear c8
        have H' := Aside0.mk H
        clear H
        go_wp2
        go_meet
        case rel => exact ⟨_, (true), (by first | rfl | (simp; done) | (simp [*]; done)), H', ⟨by first | omega | exact Nat.le_refl _⟩, ⟨by (with_reducible repeat (first | refine blk_drewN ?_ _ | refine blk_drew ?_ | refine blk_alloc ?_ _)); exact BK174.out⟩, ⟨by repeat (first | (with_reducible first | exact HB.out | apply below_alloc | apply pw_below_drewN | apply below_drew1 | refine below_set ?_ GE174.out) | exact HB.out)⟩⟩
      · rw [if_neg c8] at H
        have c8b0 : decide (11 < a0) = false := decide_eq_false c8
        clear c8
        have H' := Aside0.mk H
        clear H
        go_wp2
        go_meet
        case rel => exact ⟨_, ((t176 != 0)), (by first | rfl | (simp; done) | (simp [*]; done)), H', ⟨by first | omega | exact Nat.le_refl _⟩, ⟨by (with_reducible repeat (first | refine blk_drewN ?_ _ | refine blk_drew ?_ | refine blk_alloc ?_ _)); exact BK174.out⟩, ⟨by repeat (first | (with_reducible first | exact HB.out | apply below_alloc | apply pw_below_drewN | apply below_drew1 | refine below_set ?_ GE174.out) | exact HB.out)⟩⟩
  case rest =>
    clear HC4
    try clear c1
    try clear p2
    try clear c5
    try clear c7
    try clear c7b0
    try clear c8
    try clear c8b0
    obtain ⟨kq, x24_3, rfl, HA, HJ3, BK174, HB⟩ := hcut
    cases kq with
    | zero => exact absurd HA.out (by simp [ashlarref05_Of.j0])
    | succ kj3 =>
      have H := HA.out
      clear HA
      simp only [ashlarref05_Of.j0] at H
      by_cases c9 : x24_3 = true
      · subst c9
        have H1 : (some (0, ([] : List Bool), 1)) = some (r1, r2, r3) := by rw [if_pos rfl] at H; exact H
        clear H
        have H := H1
        clear H1
        simp only [Option.some.injEq, Prod.mk.injEq] at H
        obtain ⟨rfl, rfl, rfl⟩ := H
        have hcz10_0 : wc.cell? ⟨gb174, 0, none⟩ = some (.int .i64 0) := (blk_cell BK174.out 0).trans rfl
        have hcz10_1 : wc.cell? ⟨gb174, 1, none⟩ = some (.slice none 0 0) := (blk_cell BK174.out 1).trans rfl
        have hfz10_0 := blk_frozen BK174.out 0
        have hfz10_1 := blk_frozen BK174.out 1
        go_wp2
        refine bodyPost_ret (results_ct rfl _ _ gb174 105 #[.int .i64 0, .slice none 0 0] (0, 0) _ rfl (by (with_reducible repeat (first | refine blk_drewN ?_ _ | refine blk_drew ?_ | refine blk_alloc ?_ _)); refine blk_put (cs := #[.int .i64 0, .slice none 0 0]) ?_ 1 _ rfl; (with_reducible repeat (first | refine blk_drewN ?_ _ | refine blk_drew ?_ | refine blk_alloc ?_ _)); refine blk_put (cs := #[.int .i64 0, .slice none 0 0]) ?_ 0 _ rfl; (with_reducible repeat (first | refine blk_drewN ?_ _ | refine blk_drew ?_ | refine blk_alloc ?_ _)); exact BK174.out) Try.underlying105 rfl (by kernel_rfl)) rfl ?_
        exact ⟨_, by first | rfl | (simp [errW_none, errW_some] <;> rfl) | (simp [*, errW_none, errW_some] <;> rfl), by first | exact Kd.R_nil _ _ _ _ _ | exact Kd.N_nil _ _ _ _ _ | exact Kd.V_nil _ _ _ _ _ | exact Kd.Q_nil _ _ _ _ _ | exact Kd.S_nil _ _ _ _ _, by repeat (first | (with_reducible first | exact HB.out | apply below_alloc | apply pw_below_drewN | apply below_drew1 | refine below_set ?_ GE174.out) | exact HB.out)⟩
      · replace c9 := Bool.eq_false_iff.mpr c9
        subst c9
        have H1 : (ashlarref05_Of.l0 kj3 l1 (l1.length : Int) 0 a0 ([] : List Bool)) = some (r1, r2, r3) := by rw [if_neg (show ¬ (false = true) by decide)] at H; exact H
        clear H
        have H := H1
        clear H1
        have H' := Aside0.mk H
        clear H
        go_wp2_with (first | ((with_reducible refine gate_dst (N := 8) rfl ?_); refine box_event ?hg (N := 8) ?hd (cs := #[.int .i64 0, .slice none 0 0]) (t := 105) ?hr ?_; (case hd => rfl); (case hg => rfl); (case hr => first | (go_simp; done) | (go_simp; rfl)); intro gb179 hg w11 hbox hb; have n0_ := Aside0.mk (blk_below (g := gb174) (o := .cells #[.int .i64 0, .slice none 0 0] 105 (0, 0)) (by (with_reducible repeat (first | refine blk_drewN ?_ _ | refine blk_drew ?_ | refine blk_alloc ?_ _)); exact BK174.out) hb); have n1_ := Aside0.mk (below_step (by repeat (first | (with_reducible first | exact HB.out | apply below_alloc | apply pw_below_drewN | apply below_drew1 | refine below_set ?_ GE174.out) | exact HB.out)) hb); have n2_ := Aside0.mk (hbox); have n3_ := Aside0.mk ((by rw [hg]; exact (below_size (by repeat (first | (with_reducible first | exact HB.out | apply below_alloc | apply pw_below_drewN | apply below_drew1 | refine below_set ?_ GE174.out) | exact HB.out))) : w.heap.size ≤ gb179)); have n4_ := Aside0.mk ((by rw [hg]; exact (below_size (by repeat (first | (with_reducible first | exact HB.out | apply below_alloc | apply pw_below_drewN | apply below_drew1 | refine below_set ?_ GE174.out) | exact HB.out))) : w.heap.size ≤ gb179)); have n5_ := Aside0.mk ((by rw [hg]; exact Nat.ne_of_lt (blk_lt (g := gb174) (o := .cells #[.int .i64 0, .slice none 0 0] 105 (0, 0)) (by (with_reducible repeat (first | refine blk_drewN ?_ _ | refine blk_drew ?_ | refine blk_alloc ?_ _)); exact BK174.out)) : gb174 ≠ gb179)); have n6_ := Aside0.mk ((by rw [hg]; exact Nat.ne_of_gt (blk_lt (g := gb174) (o := .cells #[.int .i64 0, .slice none 0 0] 105 (0, 0)) (by (with_reducible repeat (first | refine blk_drewN ?_ _ | refine blk_drew ?_ | refine blk_alloc ?_ _)); exact BK174.out)) : gb179 ≠ gb174)); clear BK174; clear HB; have BK174 := n0_; have HB := n1_; have BK179 := n2_; have GW179 := n3_; have GE179 := n4_; have NB174_179 := n5_; have NB179_174 := n6_; clear n0_ n1_ n2_ n3_ n4_ n5_ n6_; clear hb hbox hg; have hnb12 := NB179_174.out; have hnc12 := NB174_179.out; have hcz13_0 : w11.cell? ⟨gb179, 0, none⟩ = some (.int .i64 0) := (blk_cell BK179.out 0).trans rfl; have hcz13_1 : w11.cell? ⟨gb179, 1, none⟩ = some (.slice none 0 0) := (blk_cell BK179.out 1).trans rfl; have hfz13_0 := blk_frozen BK179.out 0; have hfz13_1 := blk_frozen BK179.out 1))
        go_loopg [30] kj3 (fun kq v30 w' => ∃ (x30_2 : Int) (x180001_2 : List Bool) (u180001 : Value), v30 = .int .i64 x30_2 ∧ Aside0 (ashlarref05_Of.l0 kq l1 (l1.length : Int) x30_2 a0 x180001_2 = some (r1, r2, r3)) ∧ Aside0 (kq ≤ kj3) ∧ Aside0 (Kd.R Kd.bool 4 w' w.heap.size (fun _ => True) u180001 x180001_2) ∧ Aside0 (w'.heap[gb174]? = some (.cells #[.int .i64 0, (.slice none 0 0)] 105 (0, 0))) ∧ Aside0 (w'.heap[gb179]? = some (.cells #[.int .i64 a0, u180001] 105 (0, 0))) ∧ Aside0 (Below w.heap.size w w'))
        case atStart => exact ⟨(0), (([] : List Bool)), (.slice none 0 0), (by first | rfl | (simp; done) | (simp [*]; done)), H', ⟨Nat.le_refl _⟩, ⟨by first | exact Kd.R_nil _ _ _ _ _ | exact Kd.N_nil _ _ _ _ _ | exact Kd.V_nil _ _ _ _ _ | exact Kd.Q_nil _ _ _ _ _ | exact Kd.S_nil _ _ _ _ _⟩, ⟨by (with_reducible repeat (first | refine blk_drewN ?_ _ | refine blk_drew ?_ | refine blk_alloc ?_ _)); refine blk_far ?_ NB174_179.out _; (with_reducible repeat (first | refine blk_drewN ?_ _ | refine blk_drew ?_ | refine blk_alloc ?_ _)); refine blk_far ?_ NB174_179.out _; (with_reducible repeat (first | refine blk_drewN ?_ _ | refine blk_drew ?_ | refine blk_alloc ?_ _)); exact BK174.out⟩, ⟨by (with_reducible repeat (first | refine blk_drewN ?_ _ | refine blk_drew ?_ | refine blk_alloc ?_ _)); refine blk_put (cs := #[.int .i64 a0, .slice none 0 0]) ?_ 1 _ rfl; (with_reducible repeat (first | refine blk_drewN ?_ _ | refine blk_drew ?_ | refine blk_alloc ?_ _)); refine blk_put (cs := #[.int .i64 0, .slice none 0 0]) ?_ 0 _ rfl; (with_reducible repeat (first | refine blk_drewN ?_ _ | refine blk_drew ?_ | refine blk_alloc ?_ _)); exact BK179.out⟩, ⟨by repeat (first | (with_reducible first | exact HB.out | apply below_alloc | apply pw_below_drewN | apply below_drew1 | refine below_set ?_ GE174.out | refine below_set ?_ GE179.out) | exact HB.out)⟩⟩
        case round =>
          clear H'
          try clear c1
          try clear p2
          try clear c5
          try clear c7
          try clear c7b0
          try clear c8
          try clear c8b0
          try clear c9
          try clear c12
          try clear hcz10_0
          try clear hcz10_1
          try clear hcz13_0
          try clear hcz13_1
          try clear hfz10_0
          try clear hfz10_1
          try clear hfz13_0
          try clear hfz13_1
          try clear p2
          obtain ⟨x30_2, x180001_2, u180001, rfl, HA, HK2, HO_180001, BK174, BK179, HB⟩ := hrel
          cases gk with
          | zero => exact absurd HA.out (by simp [ashlarref05_Of.l0])
          | succ k2 =>
            have H := HA.out
            clear HA
            simp only [ashlarref05_Of.l0] at H
            by_cases c14 : x30_2 < (l1.length : Int)
            · rw [if_pos c14] at H
              have c14b0 : decide (x30_2 < (l1.length : Int)) = true := decide_eq_true c14
              clear c14
              by_cases c15 : 0 ≤ x30_2
              · rw [if_pos c15] at H
                have c15b0 : decide (0 ≤ x30_2) = true := decide_eq_true c15
                clear c15
                by_cases c16 : x30_2 < (l1.length : Int)
                · rw [if_pos c16] at H
                  have c16b0 : decide (x30_2 < (l1.length : Int)) = true := decide_eq_true c16
                  clear c16
                  by_cases c17 : x180001_2.length < 140737488355328
                  · rw [if_pos c17] at H
                    have LMc17 := Aside0.mk c17
                    clear c17
                    obtain ⟨y181, hy181⟩ : ∃ y_ : List Bool, y_ = (x180001_2 ++ [(((rd_T100 l1 x30_2).f0) != 0)]) := ⟨_, rfl⟩
                    replace H : (ashlarref05_Of.l0 k2 l1 (l1.length : Int) (wrap64 (x30_2 + 1)) a0 y181) = some (r1, r2, r3) := by first | (rw [hy181]; with_reducible exact H) | (have H2_ := (Option.bind_some _ _).symm.trans H; rw [hy181]; with_reducible exact H2_) | (have H2_ := (Option.bind_some _ _).symm.trans H; with_reducible exact H2_) | with_reducible exact H | (rw [hy181]; exact H) | exact H
                    have Ny181 := Aside0.mk hy181
                    clear hy181
                    have H' := Aside0.mk H
                    clear H
                    try go_wp2
                    have n0_ := Aside0.mk (Kd.R_drew HO_180001.out)
                    have n1_ := Aside0.mk (blk_drew BK174.out)
                    have n2_ := Aside0.mk (blk_drew BK179.out)
                    have n3_ := Aside0.mk (below_drew1 HB.out)
                    clear HO_180001
                    clear BK174
                    clear BK179
                    clear HB
                    have HO_180001 := n0_
                    have BK174 := n1_
                    have BK179 := n2_
                    have HB := n3_
                    clear n0_ n1_ n2_ n3_
                    have p180 : 0 ≤ (x30_2 : Int) := of_decide_eq_true (by first | (with_reducible assumption) | assumption)
                    have q180 : x30_2 < (l1.length : Int) := of_decide_eq_true (by first | (with_reducible assumption) | assumption)
                    obtain ⟨ad180, e180, hx180_0, hx180_1⟩ := at_T100 HR1.out x30_2 p180 q180
                    have hw180_1 := hx180_1
                    have hw180_0 := hx180_0
                    cases e180
                    replace hx180_0 := (HB.out.cell (World.block_lt_of_cell? w _ hx180_0)).trans hx180_0
                    replace hx180_1 := (HB.out.cell (World.block_lt_of_cell? w _ hx180_1)).trans hx180_1
                    replace p180 := eq_true p180
                    replace q180 := eq_true q180
                    refine start_ (n := 12) (S := fun w' => w'.cell? ⟨gb179, 0, none⟩ = some (.int .i64 a0) ∧ w'.cell? ⟨gb179, 1, none⟩ = some (u180001) ∧ w'.cell? (ad180.add ((x30_2).toNat * 2)) = some (.int .u16 ((rd_T100 l1 x30_2).f0)) ∧ w'.cell? ⟨(ad180.add ((x30_2).toNat * 2)).block, (ad180.add ((x30_2).toNat * 2)).off + 1, none⟩ = some (.int .u16 ((rd_T100 l1 x30_2).f1))) (ds := [11]) #[false, false, false, false, false, false, false, false, false, false, false, false] (by kernel_rfl) rfl rfl ⟨(blk_cell BK179.out 0).trans rfl, (blk_cell BK179.out 1).trans rfl, ((HB.out.cell (World.block_lt_of_cell? w _ hw180_0)).trans hw180_0), ((HB.out.cell (World.block_lt_of_cell? w _ hw180_1)).trans hw180_1)⟩ (fun hHeld => ?_); refine with_tabW ashlarref05_Of.tab8 ashlarref05_Of.bits8 (fun HT_ HW_ => ?_)
                    generalize wr.drew = w18 at HO_180001 BK174 BK179 HB hx180_0 hx180_1 hHeld ⊢
                    refine pure_ (i := 0) (N := some 33) (v := ?_) (a' := ?_) #[true, false, false, false, false, false, false, false, false, false, false, false] rfl rfl (any_of HT_.out (by kernel_rfl)) (fun _ _ _ h => h) (Or.inl ⟨by rfl, ?_⟩) ?_ ?_
                    rotate_left
                    · intro w'
                      go_simp
                      with_reducible rfl
                    rotate_left
                    · simp only [Act.put, List.setIfInBounds_toArray, List.set_cons_zero, List.set_cons_succ, i64_w, i32_w]
                      rfl
                    refine pure_ (i := 2) (N := some 35) (v := ?_) (a' := ?_) #[true, false, true, false, false, false, false, false, false, false, false, false] rfl rfl (any_of HT_.out (by kernel_rfl)) (fun _ _ _ h => h) (Or.inl ⟨by rfl, ?_⟩) ?_ ?_
                    rotate_left
                    · intro w'
                      go_simp
                      with_reducible rfl
                    rotate_left
                    · simp only [Act.put, List.setIfInBounds_toArray, List.set_cons_zero, List.set_cons_succ, i64_w, i32_w]
                      rfl
                    refine pure_ (i := 3) (N := some 36) (v := ?_) (a' := ?_) #[true, false, true, true, false, false, false, false, false, false, false, false] rfl rfl (any_of HT_.out (by kernel_rfl)) (fun _ _ _ h => h) (Or.inl ⟨by rfl, ?_⟩) ?_ ?_
                    rotate_left
                    · intro w'
                      go_simp
                      with_reducible rfl
                    rotate_left
                    · simp only [Act.put, List.setIfInBounds_toArray, List.set_cons_zero, List.set_cons_succ, i64_w, i32_w]
                      rfl
                    refine pure_ (i := 4) (N := some 37) (v := ?_) (a' := ?_) #[true, false, true, true, true, false, false, false, false, false, false, false] rfl rfl (any_of HT_.out (by kernel_rfl)) (fun _ _ _ h => h) (Or.inl ⟨by rfl, ?_⟩) ?_ ?_
                    rotate_left
                    · intro w'
                      go_simp
                      with_reducible rfl
                    rotate_left
                    · simp only [Act.put, List.setIfInBounds_toArray, List.set_cons_zero, List.set_cons_succ, i64_w, i32_w]
                      rfl
                    refine pure_ (i := 5) (N := some 38) (v := ?_) (a' := ?_) #[true, false, true, true, true, true, false, false, false, false, false, false] rfl rfl (any_of HT_.out (by kernel_rfl)) (fun _ _ _ h => h) (Or.inl ⟨by rfl, ?_⟩) ?_ ?_
                    rotate_left
                    · intro w'
                      go_simp
                      with_reducible rfl
                    rotate_left
                    · simp only [Act.put, List.setIfInBounds_toArray, List.set_cons_zero, List.set_cons_succ, i64_w, i32_w]
                      rfl
                    refine take_ (i := 1) (N := some 34) (v := ?_) (a' := ?_) #[true, true, true, true, true, true, false, false, false, false, false, false] rfl rfl (take_ofW HT_.out HW_.out (by kernel_rfl)) (fun _ _ _ h => h) (Or.inl ⟨by rfl, ?_⟩) hHeld ?_ ?_
                    rotate_left
                    · rintro w' ⟨s0, s1, s2, s3⟩
                      go_simp
                      with_reducible rfl
                    rotate_left
                    · simp only [Act.put, List.setIfInBounds_toArray, List.set_cons_zero, List.set_cons_succ, i64_w, i32_w]
                      rfl
                    refine take_ (i := 6) (N := some 39) (v := ?_) (a' := ?_) #[true, true, true, true, true, true, true, false, false, false, false, false] rfl rfl (take_ofW HT_.out HW_.out (by kernel_rfl)) (fun _ _ _ h => h) (Or.inl ⟨by rfl, ?_⟩) hHeld ?_ ?_
                    rotate_left
                    · rintro w' ⟨s0, s1, s2, s3⟩
                      go_simp
                      with_reducible rfl
                    rotate_left
                    · simp only [Act.put, List.setIfInBounds_toArray, List.set_cons_zero, List.set_cons_succ, i64_w, i32_w]
                      rfl
                    refine pure_ (i := 7) (N := some 40) (v := ?_) (a' := ?_) #[true, true, true, true, true, true, true, true, false, false, false, false] rfl rfl (any_of HT_.out (by kernel_rfl)) (fun _ _ _ h => h) (Or.inl ⟨by rfl, ?_⟩) ?_ ?_
                    rotate_left
                    · intro w'
                      go_simp
                      with_reducible rfl
                    rotate_left
                    · simp only [Act.put, List.setIfInBounds_toArray, List.set_cons_zero, List.set_cons_succ, i64_w, i32_w]
                      rfl
                    refine one_ (i := 8) (N := some 41) #[true, true, true, true, true, true, true, true, true, false, false, false] rfl rfl (one_of HT_.out (by kernel_rfl)) (by decide) (fun K hK => ?_)
                    refine value_ (w1 := ?_) (v := ?_) (by rfl) rfl ?_ ?_
                    rotate_left 2
                    · go_simp
                      constructor
                      · rfl
                      · rfl
                    refine hK.out _ _ ⟨(blk_cell (blk_alloc BK179.out _) 0).trans rfl, (blk_cell (blk_alloc BK179.out _) 1).trans rfl, (World.cell?_alloc_lt _ _ _ (World.block_lt_of_cell? _ _ (((HB.out.cell (World.block_lt_of_cell? w _ hw180_0)).trans hw180_0)))).trans (((HB.out.cell (World.block_lt_of_cell? w _ hw180_0)).trans hw180_0)), (World.cell?_alloc_lt _ _ _ (World.block_lt_of_cell? _ _ (((HB.out.cell (World.block_lt_of_cell? w _ hw180_1)).trans hw180_1)))).trans (((HB.out.cell (World.block_lt_of_cell? w _ hw180_1)).trans hw180_1))⟩ (fun hHeld => ?_)
                    clear hK K
                    refine norm_ (a' := ?_) ?_ ?_
                    rotate_left
                    · show Act.put _ (some 41) _ = _
                      simp only [Act.put, List.setIfInBounds_toArray, List.set_cons_zero, List.set_cons_succ, i64_w, i32_w]
                      rfl
                    refine one_ (i := 9) (N := some 42) #[true, true, true, true, true, true, true, true, true, true, false, false] rfl rfl (one_of HT_.out (by kernel_rfl)) (by decide) (fun K hK => ?_)
                    refine Kd.R_append_step Kd.bool (w0 := w) w.heap.size (by rfl) (.tmp 34) (.tmp 41) 103 4 (.bool false) 1 rfl Try.underlying103 info4 rfl (by decide) (by omega) u180001 x180001_2 (((rd_T100 l1 x30_2).f0) != 0) [.bool (((rd_T100 l1 x30_2).f0) != 0)] (fun _ => True) (fun _ => False) rfl rfl ?aP (fun _ hk => hk.elim) ?aF ?aO ?aB ?aS ?aL ?_
                    (case aP => exact rfl)
                    (case aB => exact (by repeat (first | (with_reducible first | exact HB.out | apply below_alloc | apply pw_below_drewN | apply below_drew1 | refine below_set ?_ GE174.out | refine below_set ?_ GE179.out) | exact HB.out)))
                    (case aF => exact (fun _ _ => trivial))
                    (case aO => exact (by (with_reducible repeat (first | apply Kd.R_alloc | apply Kd.R_drewN | apply Kd.R_drew)); exact HO_180001.out))
                    (case aS => exact (below_size (by repeat (first | (with_reducible first | exact HB.out | apply below_alloc | apply pw_below_drewN | apply below_drew1 | refine below_set ?_ GE174.out | refine below_set ?_ GE179.out) | exact HB.out))))
                    (case aL => have := LMc17.out; omega)
                    intro v182 w19 ho hb hg hat
                    rw [← Ny181.out] at ho
                    have n0_ := Aside0.mk (blk_grown (g := gb174) (o := .cells #[.int .i64 0, .slice none 0 0] 105 (0, 0)) (by (with_reducible repeat (first | refine blk_drewN ?_ _ | refine blk_drew ?_ | refine blk_alloc ?_ _)); exact BK174.out) hg (Kd.R_ne HO_180001.out BK174.out (by decide)))
                    have n1_ := Aside0.mk (blk_grown (g := gb179) (o := .cells #[.int .i64 a0, u180001] 105 (0, 0)) (by (with_reducible repeat (first | refine blk_drewN ?_ _ | refine blk_drew ?_ | refine blk_alloc ?_ _)); exact BK179.out) hg (Kd.R_ne HO_180001.out BK179.out (by decide)))
                    have n2_ := Aside0.mk (hb)
                    have n3_ := Aside0.mk (ho)
                    clear BK174
                    clear BK179
                    clear HB
                    clear HO_180001
                    have BK174 := n0_
                    have BK179 := n1_
                    have HB := n2_
                    have HO183 := n3_
                    clear n0_ n1_ n2_ n3_
                    clear ho hb hg hat
                    obtain ⟨Ao20, co20, eo20⟩ := Kd.R_slice HO183.out
                    (first | subst eo20 | (injection eo20 with f1_ f2_ f3_; have f4_ := f1_.symm; have f5_ := f3_.symm; clear f1_ f2_ f3_; subst f4_; subst f5_))
                    refine hK.out _ _ ⟨(blk_cell BK179.out 0).trans rfl, (blk_cell BK179.out 1).trans rfl, ((HB.out.cell (World.block_lt_of_cell? w _ hw180_0)).trans hw180_0), ((HB.out.cell (World.block_lt_of_cell? w _ hw180_1)).trans hw180_1)⟩ (fun hHeld => ?_)
                    clear hK K
                    refine norm_ (a' := ?_) ?_ ?_
                    rotate_left
                    · show Act.put _ (some 42) _ = _
                      simp only [Act.put, List.setIfInBounds_toArray, List.set_cons_zero, List.set_cons_succ, i64_w, i32_w]
                      rfl
                    refine pure_ (i := 10) (N := some 43) (v := ?_) (a' := ?_) #[true, true, true, true, true, true, true, true, true, true, true, false] rfl rfl (any_of HT_.out (by kernel_rfl)) (fun _ _ _ h => h) (Or.inl ⟨by rfl, ?_⟩) ?_ ?_
                    rotate_left
                    · intro w'
                      go_simp
                      with_reducible rfl
                    rotate_left
                    · simp only [Act.put, List.setIfInBounds_toArray, List.set_cons_zero, List.set_cons_succ, i64_w, i32_w]
                      rfl
                    refine last_ (i := 11) (N := none) #[true, true, true, true, true, true, true, true, true, true, true, true] rfl rfl (one_of HT_.out (by kernel_rfl)) (by decide) (fun K hK => ?_)
                    have hs21 : w19.cell? ⟨gb179, 1, none⟩ = some (u180001) := (blk_cell BK179.out 1).trans rfl
                    have hfs21 := blk_frozen BK179.out 1
                    have hns21_0 := NB174_179.out
                    have hms21_0 := NB179_174.out
                    refine skip_ (w1 := ?_) (by rfl) rfl ?_ ?_
                    rotate_left
                    · go_simp
                      rfl
                    refine hK.out _ _ ?_
                    clear hK K
                    refine done_ (done_of HT_.out (by kernel_rfl)) ?_
                    try go_wp2
                    go_roundg k2
                    case measure => have := HJ3.out; have := HK2.out; omega
                    case rel => exact ⟨(wrap64 (x30_2 + 1)), (y181), (.slice Ao20 y181.length co20), (by first | rfl | (simp; done) | (simp [*]; done)), H', ⟨by have := HJ3.out; have := HK2.out; omega⟩, ⟨by (with_reducible repeat (first | apply Kd.R_alloc | apply Kd.R_drewN | apply Kd.R_drew)); exact Kd.R_mono (Kd.R_far (p := ⟨gb179, 1, none⟩) (Kd.R_types HO183.out BK179.out (by decide)) (fun _ hk => hk.2) (.slice Ao20 y181.length co20)) (fun _ hk => trivial)⟩, ⟨by (with_reducible repeat (first | refine blk_drewN ?_ _ | refine blk_drew ?_ | refine blk_alloc ?_ _)); refine blk_far ?_ NB174_179.out _; (with_reducible repeat (first | refine blk_drewN ?_ _ | refine blk_drew ?_ | refine blk_alloc ?_ _)); exact BK174.out⟩, ⟨by (with_reducible repeat (first | refine blk_drewN ?_ _ | refine blk_drew ?_ | refine blk_alloc ?_ _)); refine blk_put (cs := #[.int .i64 a0, u180001]) ?_ 1 _ rfl; (with_reducible repeat (first | refine blk_drewN ?_ _ | refine blk_drew ?_ | refine blk_alloc ?_ _)); exact BK179.out⟩, ⟨by repeat (first | (with_reducible first | exact HB.out | apply below_alloc | apply pw_below_drewN | apply below_drew1 | refine below_set ?_ GE174.out | refine below_set ?_ GE179.out) | exact HB.out)⟩⟩
                  · rw [if_neg c17] at H
                    exact absurd H (by simp)
                · rw [if_neg c16] at H
                  exact absurd H (by simp)
              · rw [if_neg c15] at H
                exact absurd H (by simp)
            · rw [if_neg c14] at H
              have c14b0 : decide (x30_2 < (l1.length : Int)) = false := decide_eq_false c14
              clear c14
              simp only [Option.some.injEq, Prod.mk.injEq] at H
              obtain ⟨rfl, rfl, rfl⟩ := H
              have hnb22 := NB179_174.out
              have hnc22 := NB174_179.out
              have hcz23_0 : wr.cell? ⟨gb179, 0, none⟩ = some (.int .i64 a0) := (blk_cell BK179.out 0).trans rfl
              have hcz23_1 : wr.cell? ⟨gb179, 1, none⟩ = some (u180001) := (blk_cell BK179.out 1).trans rfl
              have hfz23_0 := blk_frozen BK179.out 0
              have hfz23_1 := blk_frozen BK179.out 1
              have hcz24_0 : wr.cell? ⟨gb174, 0, none⟩ = some (.int .i64 0) := (blk_cell BK174.out 0).trans rfl
              have hcz24_1 : wr.cell? ⟨gb174, 1, none⟩ = some (.slice none 0 0) := (blk_cell BK174.out 1).trans rfl
              have hfz24_0 := blk_frozen BK174.out 0
              have hfz24_1 := blk_frozen BK174.out 1
              obtain ⟨Ao25, co25, eo25⟩ := Kd.R_slice HO_180001.out
              subst eo25
              go_wp2
              refine bodyPost_ret (results_ct rfl _ _ gb174 105 #[.int .i64 a0, .slice Ao25 x180001_2.length co25] (0, 0) _ rfl (by (with_reducible repeat (first | refine blk_drewN ?_ _ | refine blk_drew ?_ | refine blk_alloc ?_ _)); refine blk_put (cs := #[.int .i64 a0, .slice none 0 0]) ?_ 1 _ rfl; (with_reducible repeat (first | refine blk_drewN ?_ _ | refine blk_drew ?_ | refine blk_alloc ?_ _)); refine blk_put (cs := #[.int .i64 0, .slice none 0 0]) ?_ 0 _ rfl; (with_reducible repeat (first | refine blk_drewN ?_ _ | refine blk_drew ?_ | refine blk_alloc ?_ _)); exact BK174.out) Try.underlying105 rfl (by kernel_rfl)) rfl ?_
              exact ⟨_, by first | rfl | (simp [errW_none, errW_some] <;> rfl) | (simp [*, errW_none, errW_some] <;> rfl), by (with_reducible repeat (first | apply Kd.R_alloc | apply Kd.R_drewN | apply Kd.R_drew)); exact Kd.R_mono (Kd.R_far (p := ⟨gb174, 1, none⟩) (Kd.R_far (p := ⟨gb174, 0, none⟩) (Kd.R_types HO_180001.out BK174.out (by decide)) (fun _ hk => hk.2) (.int .i64 a0)) (fun _ hk => hk.2) (.slice Ao25 x180001_2.length co25)) (fun _ hk => trivial), by repeat (first | (with_reducible first | exact HB.out | apply below_alloc | apply pw_below_drewN | apply below_drew1 | refine below_set ?_ GE174.out | refine below_set ?_ GE179.out) | exact HB.out)⟩

-- NOT PRINTED: function 88 (bits_Row_Len)

-- NOT PRINTED: function 90 (bits_Row_Bytes)

-- NOT PRINTED: function 93 (ashlarref01_Row_Bytes)

-- NOT PRINTED: function 58 (ashlarlaw06_sameDesc)

/-! ### ashlarref01_Fixed: function 95 -/
def ashlarref01_Fixed.j0 : Nat → Int → Bool → Option (Bool)
  | 0, _, _ => none
  | k + 1, x0, x3 => if x3 = true then (some false) else (if x0 < 64 then (if x0 < 43 then (some true) else (some (x0 == 63))) else (some (decide ((Int.tmod x0 64) < 2))))
def ashlarref01_Fixed.f (k : Nat) (a0 : Int) : Option (Bool) := if a0 < 0 then (ashlarref01_Fixed.j0 k a0 true) else (ashlarref01_Fixed.j0 k a0 (decide (a0 ≥ 768)))
theorem ashlarref01_Fixed.mono_l : ∀ k, (∀ y0 y1, LeO (ashlarref01_Fixed.j0 k y0 y1) (ashlarref01_Fixed.j0 (k + 1) y0 y1))
  | 0 => fun _ _ r h => by simp [ashlarref01_Fixed.j0] at h
  | k + 1 => by
    have ih0 := ashlarref01_Fixed.mono_l k
    · intro y0 y1
      unfold ashlarref01_Fixed.j0
      repeat' first
      | (with_reducible exact ih0 _ _)
      | (with_reducible exact LeO.refl _)
      | (with_reducible exact LeO.none _)
      | (with_reducible refine LeO.ite ?_ ?_)
      | (with_reducible refine LeO.bind ?_ (fun _ => ?_))
      | exact ih0 _ _
      | exact LeO.none _
      | refine LeO.ite ?_ ?_
      | refine LeO.bind ?_ (fun _ => ?_)
theorem ashlarref01_Fixed.mono : ∀ a0 k, LeO (ashlarref01_Fixed.f k a0) (ashlarref01_Fixed.f (k + 1) a0) := by
  intro a0 k
  have ih0 := ashlarref01_Fixed.mono_l k
  unfold ashlarref01_Fixed.f
  repeat' first
      | (with_reducible exact ih0 _ _)
      | (with_reducible exact LeO.refl _)
      | (with_reducible exact LeO.none _)
      | (with_reducible refine LeO.ite ?_ ?_)
      | (with_reducible refine LeO.bind ?_ (fun _ => ?_))
      | exact ih0 _ _
      | exact LeO.none _
      | refine LeO.ite ?_ ?_
      | refine LeO.bind ?_ (fun _ => ?_)
set_option maxHeartbeats 8000000 in
set_option maxRecDepth 100000 in
theorem ashlarref01_Fixed.calls (k : Nat) (a0 : Int) (r : Bool) (w : World) (h : ashlarref01_Fixed.f k a0 = some r) :
    Calls Try.prog 95 #[.int .i64 a0] w fun e w' => e = .returned (.bool r) ∧ Drawn0 w w' := by
  have H : (if a0 < 0 then (ashlarref01_Fixed.j0 k a0 true) else (ashlarref01_Fixed.j0 k a0 (decide (a0 ≥ 768)))) = some r := h
  clear h
  have HC2 := Aside0.mk H
  clear H
  go_enter Try.func95, Try.ntmps95
  go_upto_region 1 with (fail)
  go_cut [3] (fun v3 wc => ∃ (kq : Nat) (x3_1 : Bool), v3 = .bool x3_1 ∧ Aside0 (ashlarref01_Fixed.j0 kq a0 x3_1 = some r) ∧ Aside0 (kq ≤ k) ∧ Drawn0 w wc)
  case first =>
    have H := HC2.out
    clear HC2
    by_cases c3 : a0 < 0
    · rw [if_pos c3] at H
      have c3b0 : decide (a0 < 0) = true := decide_eq_true c3
      clear c3
      (first | rw [c3b0] | (simp only [i64_w, i32_w]; rw [c3b0]) | skip)
      have H' := Aside0.mk H
      clear H
      go_wp2
      go_meet
      case rel => exact ⟨_, (true), (by first | rfl | (simp; done) | (simp [*]; done)), H', ⟨by first | omega | exact Nat.le_refl _⟩, by repeat (first | exact Drawn0.refl _ | apply Drawn0.step)⟩
    · rw [if_neg c3] at H
      have c3b0 : decide (a0 < 0) = false := decide_eq_false c3
      clear c3
      (first | rw [c3b0] | (simp only [i64_w, i32_w]; rw [c3b0]) | skip)
      have H' := Aside0.mk H
      clear H
      go_wp2
      go_meet
      case rel => exact ⟨_, (decide (a0 ≥ 768)), (by first | rfl | (simp; done) | (simp [*]; done)), H', ⟨by first | omega | exact Nat.le_refl _⟩, by repeat (first | exact Drawn0.refl _ | apply Drawn0.step)⟩
  case rest =>
    clear HC2
    try clear p2
    try clear c3
    try clear c3b0
    obtain ⟨kq, x3_1, rfl, HA, HJ1, ⟨mc1, rfl⟩⟩ := hcut
    cases kq with
    | zero => exact absurd HA.out (by simp [ashlarref01_Fixed.j0])
    | succ kj1 =>
      have H := HA.out
      clear HA
      simp only [ashlarref01_Fixed.j0] at H
      by_cases c4 : x3_1 = true
      · subst c4
        have H1 : (some false) = some r := by rw [if_pos rfl] at H; exact H
        clear H
        have H := H1
        clear H1
        obtain rfl := Option.some.inj H
        go_wp2
        go_ret
        exact ⟨by first | rfl | (simp; done) | (simp [*]; done), by repeat (first | exact Drawn0.refl _ | apply Drawn0.step)⟩
      · replace c4 := Bool.eq_false_iff.mpr c4
        subst c4
        have H1 : (if a0 < 64 then (if a0 < 43 then (some true) else (some (a0 == 63))) else (some (decide ((Int.tmod a0 64) < 2)))) = some r := by rw [if_neg (show ¬ (false = true) by decide)] at H; exact H
        clear H
        have H := H1
        clear H1
        by_cases c5 : a0 < 64
        · rw [if_pos c5] at H
          have c5b0 : decide (a0 < 64) = true := decide_eq_true c5
          clear c5
          by_cases c6 : a0 < 43
          · rw [if_pos c6] at H
            have c6b0 : decide (a0 < 43) = true := decide_eq_true c6
            clear c6
            obtain rfl := Option.some.inj H
            go_wp2
            go_ret
            exact ⟨by first | rfl | (simp; done) | (simp [*]; done), by repeat (first | exact Drawn0.refl _ | apply Drawn0.step)⟩
          · rw [if_neg c6] at H
            have c6b0 : decide (a0 < 43) = false := decide_eq_false c6
            clear c6
            obtain rfl := Option.some.inj H
            go_wp2
            go_ret
            exact ⟨by first | rfl | (simp; done) | (simp [*]; done), by repeat (first | exact Drawn0.refl _ | apply Drawn0.step)⟩
        · rw [if_neg c5] at H
          have c5b0 : decide (a0 < 64) = false := decide_eq_false c5
          clear c5
          obtain rfl := Option.some.inj H
          go_wp2
          go_ret
          exact ⟨by first | rfl | (simp; done) | (simp [*]; done), by repeat (first | exact Drawn0.refl _ | apply Drawn0.step)⟩

/-! ### ashlarref05_Fresh: function 60 -/
mutual
def ashlarref05_Fresh.j0 : Nat → Int → List (S100) → Bool → Option ((List (S100)))
  | 0, _, _, _ => none
  | k + 1, x0, x3, x11 => if x11 = true then (some ([] : List (S100))) else (ashlarref05_Fresh.l0 k x0 x3 0)
def ashlarref05_Fresh.l0 : Nat → Int → List (S100) → Int → Option ((List (S100)))
  | 0, _, _, _ => none
  | k + 1, x0, x3, x12 => if x12 < 64 then ((ashlarref01_Fixed.f k (wrap64 ((wrap64 (64 * x0)) + x12))).bind fun t185 => (if t185 = true then (if x3.length < 35184372088832 then (ashlarref05_Fresh.l0 k x0 (x3 ++ [(⟨65535, 0⟩ : S100)]) (wrap64 (x12 + 1))) else (none)) else (if x3.length < 35184372088832 then (ashlarref05_Fresh.l0 k x0 (x3 ++ [(⟨0, 0⟩ : S100)]) (wrap64 (x12 + 1))) else (none)))) else (some x3)
end
def ashlarref05_Fresh.f (k : Nat) (a0 : Int) : Option ((List (S100))) := if a0 < 0 then (ashlarref05_Fresh.j0 k a0 ([] : List (S100)) true) else (ashlarref05_Fresh.j0 k a0 ([] : List (S100)) (decide (a0 > 11)))
theorem ashlarref05_Fresh.mono_l : ∀ k, (∀ y0 y1 y2, LeO (ashlarref05_Fresh.j0 k y0 y1 y2) (ashlarref05_Fresh.j0 (k + 1) y0 y1 y2)) ∧ (∀ y0 y1 y2, LeO (ashlarref05_Fresh.l0 k y0 y1 y2) (ashlarref05_Fresh.l0 (k + 1) y0 y1 y2))
  | 0 => ⟨fun _ _ _ r h => by simp [ashlarref05_Fresh.j0] at h, fun _ _ _ r h => by simp [ashlarref05_Fresh.l0] at h⟩
  | k + 1 => by
    obtain ⟨ih0, ih1⟩ := ashlarref05_Fresh.mono_l k
    refine ⟨?_, ?_⟩
    · intro y0 y1 y2
      unfold ashlarref05_Fresh.j0
      repeat' first
      | (with_reducible exact ih0 _ _ _)
      | (with_reducible exact ih1 _ _ _)
      | (with_reducible exact ashlarref01_Fixed.mono _ _)
      | (with_reducible exact LeO.refl _)
      | (with_reducible exact LeO.none _)
      | (with_reducible refine LeO.ite ?_ ?_)
      | (with_reducible refine LeO.bind ?_ (fun _ => ?_))
      | exact ih0 _ _ _
      | exact ih1 _ _ _
      | exact ashlarref01_Fixed.mono _ _
      | exact LeO.none _
      | refine LeO.ite ?_ ?_
      | refine LeO.bind ?_ (fun _ => ?_)
    · intro y0 y1 y2
      unfold ashlarref05_Fresh.l0
      repeat' first
      | (with_reducible exact ih0 _ _ _)
      | (with_reducible exact ih1 _ _ _)
      | (with_reducible exact ashlarref01_Fixed.mono _ _)
      | (with_reducible exact LeO.refl _)
      | (with_reducible exact LeO.none _)
      | (with_reducible refine LeO.ite ?_ ?_)
      | (with_reducible refine LeO.bind ?_ (fun _ => ?_))
      | exact ih0 _ _ _
      | exact ih1 _ _ _
      | exact ashlarref01_Fixed.mono _ _
      | exact LeO.none _
      | refine LeO.ite ?_ ?_
      | refine LeO.bind ?_ (fun _ => ?_)
theorem ashlarref05_Fresh.mono : ∀ a0 k, LeO (ashlarref05_Fresh.f k a0) (ashlarref05_Fresh.f (k + 1) a0) := by
  intro a0 k
  obtain ⟨ih0, ih1⟩ := ashlarref05_Fresh.mono_l k
  unfold ashlarref05_Fresh.f
  repeat' first
      | (with_reducible exact ih0 _ _ _)
      | (with_reducible exact ih1 _ _ _)
      | (with_reducible exact ashlarref01_Fixed.mono _ _)
      | (with_reducible exact LeO.refl _)
      | (with_reducible exact LeO.none _)
      | (with_reducible refine LeO.ite ?_ ?_)
      | (with_reducible refine LeO.bind ?_ (fun _ => ?_))
      | exact ih0 _ _ _
      | exact ih1 _ _ _
      | exact ashlarref01_Fixed.mono _ _
      | exact LeO.none _
      | refine LeO.ite ?_ ?_
      | refine LeO.bind ?_ (fun _ => ?_)
set_option maxHeartbeats 8000000 in
set_option maxRecDepth 100000 in
theorem ashlarref05_Fresh.calls (k : Nat) (a0 : Int) (r : List (S100)) (w : World) (h : ashlarref05_Fresh.f k a0 = some r) :
    Calls Try.prog 60 #[.int .i64 a0] w fun e w' => ∃ v0_ : Value, e = .returned (v0_) ∧ Kd.R k100 100 w' w.heap.size (fun _ => True) v0_ r ∧ Below w.heap.size w w' := by
  have hu100 := Try.underlying100
  have HB := Aside0.mk (Below.refl w.heap.size w)
  have H : (if a0 < 0 then (ashlarref05_Fresh.j0 k a0 ([] : List (S100)) true) else (ashlarref05_Fresh.j0 k a0 ([] : List (S100)) (decide (a0 > 11)))) = some r := h
  clear h
  have HC2 := Aside0.mk H
  clear H
  go_enter Try.func60, Try.ntmps60
  go_upto_region 2 with (fail)
  go_cut [11] (fun v11 wc => ∃ (kq : Nat) (x11_1 : Bool), v11 = .bool x11_1 ∧ Aside0 (ashlarref05_Fresh.j0 kq a0 ([] : List (S100)) x11_1 = some r) ∧ Aside0 (kq ≤ k) ∧ Aside0 (Kd.R k100 100 wc w.heap.size (fun _ => True) (.slice none 0 0) ([] : List (S100))) ∧ Aside0 (Below w.heap.size w wc))
  case first =>
    have H := HC2.out
    clear HC2
    by_cases c3 : a0 < 0
    · rw [if_pos c3] at H
      have c3b0 : decide (a0 < 0) = true := decide_eq_true c3
      clear c3
      (first | rw [c3b0] | (simp only [i64_w, i32_w]; rw [c3b0]) | skip)
      have H' := Aside0.mk H
      clear H
      go_wp2
      go_meet
      case rel => exact ⟨_, (true), (by first | rfl | (simp; done) | (simp [*]; done)), H', ⟨by first | omega | exact Nat.le_refl _⟩, ⟨by first | exact Kd.R_nil _ _ _ _ _ | exact Kd.N_nil _ _ _ _ _ | exact Kd.V_nil _ _ _ _ _ | exact Kd.Q_nil _ _ _ _ _ | exact Kd.S_nil _ _ _ _ _⟩, ⟨by repeat (first | (with_reducible first | exact HB.out | apply below_alloc | apply pw_below_drewN | apply below_drew1) | exact HB.out)⟩⟩
    · rw [if_neg c3] at H
      have c3b0 : decide (a0 < 0) = false := decide_eq_false c3
      clear c3
      (first | rw [c3b0] | (simp only [i64_w, i32_w]; rw [c3b0]) | skip)
      have H' := Aside0.mk H
      clear H
      go_wp2
      go_meet
      case rel => exact ⟨_, (decide (a0 > 11)), (by first | rfl | (simp; done) | (simp [*]; done)), H', ⟨by first | omega | exact Nat.le_refl _⟩, ⟨by first | exact Kd.R_nil _ _ _ _ _ | exact Kd.N_nil _ _ _ _ _ | exact Kd.V_nil _ _ _ _ _ | exact Kd.Q_nil _ _ _ _ _ | exact Kd.S_nil _ _ _ _ _⟩, ⟨by repeat (first | (with_reducible first | exact HB.out | apply below_alloc | apply pw_below_drewN | apply below_drew1) | exact HB.out)⟩⟩
  case rest =>
    clear HC2
    try clear p2
    try clear c3
    try clear c3b0
    obtain ⟨kq, x11_1, rfl, HA, HJ1, HO_3, HB⟩ := hcut
    cases kq with
    | zero => exact absurd HA.out (by simp [ashlarref05_Fresh.j0])
    | succ kj1 =>
      have H := HA.out
      clear HA
      simp only [ashlarref05_Fresh.j0] at H
      by_cases c4 : x11_1 = true
      · subst c4
        have H1 : (some ([] : List (S100))) = some r := by rw [if_pos rfl] at H; exact H
        clear H
        have H := H1
        clear H1
        obtain rfl := Option.some.inj H
        go_wp2
        go_ret
        exact ⟨_, by first | rfl | (simp [errW_none, errW_some] <;> rfl) | (simp [*, errW_none, errW_some] <;> rfl), by first | exact Kd.R_nil _ _ _ _ _ | exact Kd.N_nil _ _ _ _ _ | exact Kd.V_nil _ _ _ _ _ | exact Kd.Q_nil _ _ _ _ _ | exact Kd.S_nil _ _ _ _ _, by repeat (first | (with_reducible first | exact HB.out | apply below_alloc | apply pw_below_drewN | apply below_drew1) | exact HB.out)⟩
      · replace c4 := Bool.eq_false_iff.mpr c4
        subst c4
        have H1 : (ashlarref05_Fresh.l0 kj1 a0 ([] : List (S100)) 0) = some r := by rw [if_neg (show ¬ (false = true) by decide)] at H; exact H
        clear H
        have H := H1
        clear H1
        have H' := Aside0.mk H
        clear H
        go_wp2
        go_loopg [3, 12] kj1 (fun kq v3 v12 w' => ∃ (x3_2 : List (S100)) (x12_2 : Int), v12 = .int .i64 x12_2 ∧ Aside0 (ashlarref05_Fresh.l0 kq a0 x3_2 x12_2 = some r) ∧ Aside0 (kq ≤ kj1) ∧ Aside0 (Kd.R k100 100 w' w.heap.size (fun _ => True) v3 x3_2) ∧ Aside0 (Below w.heap.size w w'))
        case atStart => exact ⟨(([] : List (S100))), (0), (by first | rfl | (simp; done) | (simp [*]; done)), H', ⟨Nat.le_refl _⟩, ⟨by (with_reducible repeat (first | apply Kd.R_alloc | apply Kd.R_drewN | apply Kd.R_drew)); exact HO_3.out⟩, ⟨by repeat (first | (with_reducible first | exact HB.out | apply below_alloc | apply pw_below_drewN | apply below_drew1) | exact HB.out)⟩⟩
        case round =>
          clear H'
          try clear p2
          try clear c3
          try clear c3b0
          try clear c4
          try clear p2
          obtain ⟨x3_2, x12_2, rfl, HA, HK2, HO_3, HB⟩ := hrel
          cases gk with
          | zero => exact absurd HA.out (by simp [ashlarref05_Fresh.l0])
          | succ k2 =>
            have H := HA.out
            clear HA
            simp only [ashlarref05_Fresh.l0] at H
            by_cases c5 : x12_2 < 64
            · rw [if_pos c5] at H
              have c5b0 : decide (x12_2 < 64) = true := decide_eq_true c5
              clear c5
              replace H := Option.bind_eq_some_iff.mp H
              obtain ⟨t185, A60, H⟩ := H
              replace H : (if t185 = true then (if x3_2.length < 35184372088832 then (ashlarref05_Fresh.l0 k2 a0 (x3_2 ++ [(⟨65535, 0⟩ : S100)]) (wrap64 (x12_2 + 1))) else (none)) else (if x3_2.length < 35184372088832 then (ashlarref05_Fresh.l0 k2 a0 (x3_2 ++ [(⟨0, 0⟩ : S100)]) (wrap64 (x12_2 + 1))) else (none))) = some r := H
              have A6 := Aside0.mk A60
              clear A60
              by_cases c7 : t185 = true
              · subst c7
                have H1 : (if x3_2.length < 35184372088832 then (ashlarref05_Fresh.l0 k2 a0 (x3_2 ++ [(⟨65535, 0⟩ : S100)]) (wrap64 (x12_2 + 1))) else (none)) = some r := by rw [if_pos rfl] at H; exact H
                clear H
                have H := H1
                clear H1
                by_cases c8 : x3_2.length < 35184372088832
                · rw [if_pos c8] at H
                  have LMc8 := Aside0.mk c8
                  clear c8
                  obtain ⟨y186, hy186⟩ : ∃ y_ : List (S100), y_ = (x3_2 ++ [(⟨65535, 0⟩ : S100)]) := ⟨_, rfl⟩
                  replace H : (ashlarref05_Fresh.l0 k2 a0 y186 (wrap64 (x12_2 + 1))) = some r := by first | (rw [hy186]; with_reducible exact H) | (have H2_ := (Option.bind_some _ _).symm.trans H; rw [hy186]; with_reducible exact H2_) | (have H2_ := (Option.bind_some _ _).symm.trans H; with_reducible exact H2_) | with_reducible exact H | (rw [hy186]; exact H) | exact H
                  have Ny186 := Aside0.mk hy186
                  clear hy186
                  have H' := Aside0.mk H
                  clear H
                  go_wp2_with (first | ((with_reducible refine gate_dst (N := 5) rfl ?_); refine box_event ?hg (N := 5) ?hd (cs := #[.int .u16 0, .int .u16 0]) (t := 100) ?hr ?_; (case hd => rfl); (case hg => rfl); (case hr => first | (go_simp; done) | (go_simp; rfl)); intro gb184 hg w9 hbox hb; have n0_ := Aside0.mk (Kd.R_below (Kd.R_elderB (by (with_reducible repeat (first | apply Kd.R_alloc | apply Kd.R_drewN | apply Kd.R_drew)); exact HO_3.out) gb184 (Nat.le_of_eq hg.symm)) hb); have n1_ := Aside0.mk (below_step (by repeat (first | (with_reducible first | exact HB.out | apply below_alloc | apply pw_below_drewN | apply below_drew1) | exact HB.out)) hb); have n2_ := Aside0.mk (hbox); have n3_ := Aside0.mk ((by rw [hg]; exact (below_size (by repeat (first | (with_reducible first | exact HB.out | apply below_alloc | apply pw_below_drewN | apply below_drew1) | exact HB.out))) : w.heap.size ≤ gb184)); have n4_ := Aside0.mk ((by rw [hg]; exact (below_size (by repeat (first | (with_reducible first | exact HB.out | apply below_alloc | apply pw_below_drewN | apply below_drew1) | exact HB.out))) : w.heap.size ≤ gb184)); clear HO_3; clear HB; have HO_3 := n0_; have HB := n1_; have BK184 := n2_; have GW184 := n3_; have GE184 := n4_; clear n0_ n1_ n2_ n3_ n4_; clear hb hbox hg; have hcz10_0 : w9.cell? ⟨gb184, 0, none⟩ = some (.int .u16 0) := (blk_cell BK184.out 0).trans rfl; have hcz10_1 : w9.cell? ⟨gb184, 1, none⟩ = some (.int .u16 0) := (blk_cell BK184.out 1).trans rfl; have hfz10_0 := blk_frozen BK184.out 0; have hfz10_1 := blk_frozen BK184.out 1) | ((with_reducible refine gate_callee (f := 95) rfl ?_); refine goesL_ (some 20) rfl rfl Try.func95 (by kernel_rfl) rfl #[.int .i64 (wrap64 ((wrap64 (64 * a0)) + x12_2))] rfl (by (try simp only [List.map_toArray, List.map_cons, List.map_nil]); first | done | rfl | (simp only [List.length_drop, List.length_take]; rfl)) ?_; (with_reducible refine (ashlarref01_Fixed.calls k2 (wrap64 ((wrap64 (64 * a0)) + x12_2)) true _ A6.out).mono ?_); rintro e w' ⟨rfl, ⟨nd, rfl⟩⟩; refine ⟨_, rfl, ?_⟩) | ((with_reducible refine gate_builtin (b := .append) (xs := #[.tmp 22, .tmp 24]) rfl ?_); at_builtin; refine Kd.R_append k100 (w0 := w) w.heap.size rfl (.tmp 22) (.tmp 24) 92 100 (.agg #[(.int .u16 0), (.int .u16 0)]) 4 rfl Try.underlying92 info100 rfl (by decide) (by omega) u3 x3_2 (⟨65535, 0⟩ : S100) [.int .u16 65535, .int .u16 0] (fun k_ => k_ ≠ gb184) (fun _ => False) rfl (by first | (go_simp; done) | (go_simp; rfl)) ?aP (fun _ hk => hk.elim) ?aF ?aO ?aB ?aS ?aL ?_; (case aP => exact k100_mkM _ _ _ (⟨65535, 0⟩ : S100)); (case aB => exact (by repeat (first | (with_reducible first | exact HB.out | apply below_alloc | apply pw_below_drewN | apply below_drew1 | refine below_set ?_ GE184.out) | exact HB.out))); (case aF => exact (fun k_ hk => Kd.freshB (g := gb184) (o := .cells #[.int .u16 65535, .int .u16 0] 100 (0, 0)) (by (with_reducible repeat (first | refine blk_drewN ?_ _ | refine blk_drew ?_ | refine blk_alloc ?_ _)); refine blk_put (cs := #[.int .u16 0, .int .u16 0]) ?_ 0 _ rfl; (with_reducible repeat (first | refine blk_drewN ?_ _ | refine blk_drew ?_ | refine blk_alloc ?_ _)); refine blk_put (cs := #[.int .u16 0, .int .u16 0]) ?_ 1 _ rfl; (with_reducible repeat (first | refine blk_drewN ?_ _ | refine blk_drew ?_ | refine blk_alloc ?_ _)); refine blk_put (cs := #[.int .u16 0, .int .u16 0]) ?_ 0 _ rfl; (with_reducible repeat (first | refine blk_drewN ?_ _ | refine blk_drew ?_ | refine blk_alloc ?_ _)); exact BK184.out) k_ hk)); (case aO => exact (by (with_reducible repeat (first | apply Kd.R_alloc | apply Kd.R_drewN | apply Kd.R_drew)); exact Kd.R_mono (Kd.R_far (p := ⟨gb184, 0, none⟩) (Kd.R_far (p := ⟨gb184, 1, none⟩) (Kd.R_far (p := ⟨gb184, 0, none⟩) (Kd.R_mono HO_3.out (fun k_ hk => (⟨hk, hk.2⟩ : _ ∧ k_ ≠ gb184))) (fun _ hk => hk.2) (.int .u16 0)) (fun _ hk => hk.2) (.int .u16 0)) (fun _ hk => hk.2) (.int .u16 65535)) (fun _ hk => hk.1.2))); (case aS => exact (below_size (by repeat (first | (with_reducible first | exact HB.out | apply below_alloc | apply pw_below_drewN | apply below_drew1 | refine below_set ?_ GE184.out) | exact HB.out)))); (case aL => have := LMc8.out; omega); intro v187 w11 ho hb hg hat; rw [← Ny186.out] at ho; have n0_ := Aside0.mk (blk_grown (g := gb184) (o := .cells #[.int .u16 65535, .int .u16 0] 100 (0, 0)) (by (with_reducible repeat (first | refine blk_drewN ?_ _ | refine blk_drew ?_ | refine blk_alloc ?_ _)); refine blk_put (cs := #[.int .u16 0, .int .u16 0]) ?_ 0 _ rfl; (with_reducible repeat (first | refine blk_drewN ?_ _ | refine blk_drew ?_ | refine blk_alloc ?_ _)); refine blk_put (cs := #[.int .u16 0, .int .u16 0]) ?_ 1 _ rfl; (with_reducible repeat (first | refine blk_drewN ?_ _ | refine blk_drew ?_ | refine blk_alloc ?_ _)); refine blk_put (cs := #[.int .u16 0, .int .u16 0]) ?_ 0 _ rfl; (with_reducible repeat (first | refine blk_drewN ?_ _ | refine blk_drew ?_ | refine blk_alloc ?_ _)); exact BK184.out) hg (Kd.R_away HO_3.out (fun _ hk => hk.2))); have n1_ := Aside0.mk (hb); have n2_ := Aside0.mk (ho); clear BK184; clear HB; clear HO_3; have BK184 := n0_; have HB := n1_; have HO188 := n2_; clear n0_ n1_ n2_; clear ho hb hg hat))
                  go_roundg k2
                  case measure => have := HJ1.out; have := HK2.out; omega
                  case rel => exact ⟨(y186), (wrap64 (x12_2 + 1)), (by first | rfl | (simp; done) | (simp [*]; done)), H', ⟨by have := HJ1.out; have := HK2.out; omega⟩, ⟨by (with_reducible repeat (first | apply Kd.R_alloc | apply Kd.R_drewN | apply Kd.R_drew)); exact Kd.R_mono HO188.out (fun _ hk => trivial)⟩, ⟨by repeat (first | (with_reducible first | exact HB.out | apply below_alloc | apply pw_below_drewN | apply below_drew1 | refine below_set ?_ GE184.out) | exact HB.out)⟩⟩
                · rw [if_neg c8] at H
                  exact absurd H (by simp)
              · replace c7 := Bool.eq_false_iff.mpr c7
                subst c7
                have H1 : (if x3_2.length < 35184372088832 then (ashlarref05_Fresh.l0 k2 a0 (x3_2 ++ [(⟨0, 0⟩ : S100)]) (wrap64 (x12_2 + 1))) else (none)) = some r := by rw [if_neg (show ¬ (false = true) by decide)] at H; exact H
                clear H
                have H := H1
                clear H1
                by_cases c12 : x3_2.length < 35184372088832
                · rw [if_pos c12] at H
                  have LMc12 := Aside0.mk c12
                  clear c12
                  obtain ⟨y189, hy189⟩ : ∃ y_ : List (S100), y_ = (x3_2 ++ [(⟨0, 0⟩ : S100)]) := ⟨_, rfl⟩
                  replace H : (ashlarref05_Fresh.l0 k2 a0 y189 (wrap64 (x12_2 + 1))) = some r := by first | (rw [hy189]; with_reducible exact H) | (have H2_ := (Option.bind_some _ _).symm.trans H; rw [hy189]; with_reducible exact H2_) | (have H2_ := (Option.bind_some _ _).symm.trans H; with_reducible exact H2_) | with_reducible exact H | (rw [hy189]; exact H) | exact H
                  have Ny189 := Aside0.mk hy189
                  clear hy189
                  have H' := Aside0.mk H
                  clear H
                  go_wp2_with (first | ((with_reducible refine gate_dst (N := 5) rfl ?_); refine box_event ?hg (N := 5) ?hd (cs := #[.int .u16 0, .int .u16 0]) (t := 100) ?hr ?_; (case hd => rfl); (case hg => rfl); (case hr => first | (go_simp; done) | (go_simp; rfl)); intro gb184 hg w13 hbox hb; have n0_ := Aside0.mk (Kd.R_below (Kd.R_elderB (by (with_reducible repeat (first | apply Kd.R_alloc | apply Kd.R_drewN | apply Kd.R_drew)); exact HO_3.out) gb184 (Nat.le_of_eq hg.symm)) hb); have n1_ := Aside0.mk (below_step (by repeat (first | (with_reducible first | exact HB.out | apply below_alloc | apply pw_below_drewN | apply below_drew1) | exact HB.out)) hb); have n2_ := Aside0.mk (hbox); have n3_ := Aside0.mk ((by rw [hg]; exact (below_size (by repeat (first | (with_reducible first | exact HB.out | apply below_alloc | apply pw_below_drewN | apply below_drew1) | exact HB.out))) : w.heap.size ≤ gb184)); have n4_ := Aside0.mk ((by rw [hg]; exact (below_size (by repeat (first | (with_reducible first | exact HB.out | apply below_alloc | apply pw_below_drewN | apply below_drew1) | exact HB.out))) : w.heap.size ≤ gb184)); clear HO_3; clear HB; have HO_3 := n0_; have HB := n1_; have BK184 := n2_; have GW184 := n3_; have GE184 := n4_; clear n0_ n1_ n2_ n3_ n4_; clear hb hbox hg; have hcz14_0 : w13.cell? ⟨gb184, 0, none⟩ = some (.int .u16 0) := (blk_cell BK184.out 0).trans rfl; have hcz14_1 : w13.cell? ⟨gb184, 1, none⟩ = some (.int .u16 0) := (blk_cell BK184.out 1).trans rfl; have hfz14_0 := blk_frozen BK184.out 0; have hfz14_1 := blk_frozen BK184.out 1) | ((with_reducible refine gate_callee (f := 95) rfl ?_); refine goesL_ (some 20) rfl rfl Try.func95 (by kernel_rfl) rfl #[.int .i64 (wrap64 ((wrap64 (64 * a0)) + x12_2))] rfl (by (try simp only [List.map_toArray, List.map_cons, List.map_nil]); first | done | rfl | (simp only [List.length_drop, List.length_take]; rfl)) ?_; (with_reducible refine (ashlarref01_Fixed.calls k2 (wrap64 ((wrap64 (64 * a0)) + x12_2)) false _ A6.out).mono ?_); rintro e w' ⟨rfl, ⟨nd, rfl⟩⟩; refine ⟨_, rfl, ?_⟩) | ((with_reducible refine gate_builtin (b := .append) (xs := #[.tmp 22, .tmp 24]) rfl ?_); at_builtin; refine Kd.R_append k100 (w0 := w) w.heap.size rfl (.tmp 22) (.tmp 24) 92 100 (.agg #[(.int .u16 0), (.int .u16 0)]) 4 rfl Try.underlying92 info100 rfl (by decide) (by omega) u3 x3_2 (⟨0, 0⟩ : S100) [.int .u16 0, .int .u16 0] (fun k_ => k_ ≠ gb184) (fun _ => False) rfl (by first | (go_simp; done) | (go_simp; rfl)) ?aP (fun _ hk => hk.elim) ?aF ?aO ?aB ?aS ?aL ?_; (case aP => exact k100_mkM _ _ _ (⟨0, 0⟩ : S100)); (case aB => exact (by repeat (first | (with_reducible first | exact HB.out | apply below_alloc | apply pw_below_drewN | apply below_drew1 | refine below_set ?_ GE184.out) | exact HB.out))); (case aF => exact (fun k_ hk => Kd.freshB (g := gb184) (o := .cells #[.int .u16 0, .int .u16 0] 100 (0, 0)) (by (with_reducible repeat (first | refine blk_drewN ?_ _ | refine blk_drew ?_ | refine blk_alloc ?_ _)); refine blk_put (cs := #[.int .u16 0, .int .u16 0]) ?_ 1 _ rfl; (with_reducible repeat (first | refine blk_drewN ?_ _ | refine blk_drew ?_ | refine blk_alloc ?_ _)); refine blk_put (cs := #[.int .u16 0, .int .u16 0]) ?_ 0 _ rfl; (with_reducible repeat (first | refine blk_drewN ?_ _ | refine blk_drew ?_ | refine blk_alloc ?_ _)); exact BK184.out) k_ hk)); (case aO => exact (by (with_reducible repeat (first | apply Kd.R_alloc | apply Kd.R_drewN | apply Kd.R_drew)); exact Kd.R_mono (Kd.R_far (p := ⟨gb184, 1, none⟩) (Kd.R_far (p := ⟨gb184, 0, none⟩) (Kd.R_mono HO_3.out (fun k_ hk => (⟨hk, hk.2⟩ : _ ∧ k_ ≠ gb184))) (fun _ hk => hk.2) (.int .u16 0)) (fun _ hk => hk.2) (.int .u16 0)) (fun _ hk => hk.1.2))); (case aS => exact (below_size (by repeat (first | (with_reducible first | exact HB.out | apply below_alloc | apply pw_below_drewN | apply below_drew1 | refine below_set ?_ GE184.out) | exact HB.out)))); (case aL => have := LMc12.out; omega); intro v190 w15 ho hb hg hat; rw [← Ny189.out] at ho; have n0_ := Aside0.mk (blk_grown (g := gb184) (o := .cells #[.int .u16 0, .int .u16 0] 100 (0, 0)) (by (with_reducible repeat (first | refine blk_drewN ?_ _ | refine blk_drew ?_ | refine blk_alloc ?_ _)); refine blk_put (cs := #[.int .u16 0, .int .u16 0]) ?_ 1 _ rfl; (with_reducible repeat (first | refine blk_drewN ?_ _ | refine blk_drew ?_ | refine blk_alloc ?_ _)); refine blk_put (cs := #[.int .u16 0, .int .u16 0]) ?_ 0 _ rfl; (with_reducible repeat (first | refine blk_drewN ?_ _ | refine blk_drew ?_ | refine blk_alloc ?_ _)); exact BK184.out) hg (Kd.R_away HO_3.out (fun _ hk => hk.2))); have n1_ := Aside0.mk (hb); have n2_ := Aside0.mk (ho); clear BK184; clear HB; clear HO_3; have BK184 := n0_; have HB := n1_; have HO191 := n2_; clear n0_ n1_ n2_; clear ho hb hg hat))
                  go_roundg k2
                  case measure => have := HJ1.out; have := HK2.out; omega
                  case rel => exact ⟨(y189), (wrap64 (x12_2 + 1)), (by first | rfl | (simp; done) | (simp [*]; done)), H', ⟨by have := HJ1.out; have := HK2.out; omega⟩, ⟨by (with_reducible repeat (first | apply Kd.R_alloc | apply Kd.R_drewN | apply Kd.R_drew)); exact Kd.R_mono HO191.out (fun _ hk => trivial)⟩, ⟨by repeat (first | (with_reducible first | exact HB.out | apply below_alloc | apply pw_below_drewN | apply below_drew1 | refine below_set ?_ GE184.out) | exact HB.out)⟩⟩
                · rw [if_neg c12] at H
                  exact absurd H (by simp)
            · rw [if_neg c5] at H
              have c5b0 : decide (x12_2 < 64) = false := decide_eq_false c5
              clear c5
              obtain rfl := Option.some.inj H
              go_wp2
              go_ret
              exact ⟨_, by first | rfl | (simp [errW_none, errW_some] <;> rfl) | (simp [*, errW_none, errW_some] <;> rfl), by (with_reducible repeat (first | apply Kd.R_alloc | apply Kd.R_drewN | apply Kd.R_drew)); exact HO_3.out, by repeat (first | (with_reducible first | exact HB.out | apply below_alloc | apply pw_below_drewN | apply below_drew1) | exact HB.out)⟩

end Go.Proofs.Ytignifnkjlldpaa.PGroupPages
