/- Written by a program of this session (xprint.py) out of the translation. What is proved, in the end: the Go law GroupPages answers true at every input, and its arguments read behind the call as before; no condition. -/
import Derived.Test.YtignifnkjlldpaaPGroupPagesx0
import Derived.Test.YtignifnkjlldpaaPGroupPagesx2
namespace Go.Proofs.Ytignifnkjlldpaa.PGroupPages
open Go.RowKit Go.Proofs.YtignifnkjlldpaaW.PrintWords Go.Proofs.YtignifnkjlldpaaW.PrintLast Go.Proofs.YtignifnkjlldpaaW.PrintMore
attribute [local go_sem] max2_int min2_int max_two min_two max_three min_three max_four min_four   -- for this text's walks alone
set_option linter.unusedVariables false
set_option linter.unusedSimpArgs false

/-! ### group_Fresh: function 59 -/
mutual
def group_Fresh.j0 : Nat → Int → Bool → Option ((List (S100)))
  | 0, _, _ => none
  | k + 1, x0, x10 => if x10 = true then (some ([] : List (S100))) else (if 64 ≤ 70368744177664 then ((some (List.replicate 64 z100 : List (S100))).bind fun y122 => (group_Fresh.l0 k x0 y122 (y122.length : Int) 0)) else (none))
def group_Fresh.l0 : Nat → Int → List (S100) → Int → Int → Option ((List (S100)))
  | 0, _, _, _, _ => none
  | k + 1, x0, x3, x13, x14 => if x14 < x13 then ((geom_Fixed.f k (wrap64 ((wrap64 (x0 * 64)) + x14))).bind fun t125 => (if t125 = true then (if 0 ≤ x14 then (if x14 < (x3.length : Int) then (group_Fresh.l0 k x0 (x3.set (x14 : Int).toNat (⟨65535, (rd_T100 x3 x14).f1⟩ : S100)) x13 (wrap64 (x14 + 1))) else (none)) else (none)) else (group_Fresh.l0 k x0 x3 x13 (wrap64 (x14 + 1))))) else (some x3)
end
def group_Fresh.f (k : Nat) (a0 : Int) : Option ((List (S100))) := if a0 < 0 then (group_Fresh.j0 k a0 true) else (group_Fresh.j0 k a0 (decide (a0 ≥ 12)))
theorem group_Fresh.mono_l : ∀ k, (∀ y0 y1, LeO (group_Fresh.j0 k y0 y1) (group_Fresh.j0 (k + 1) y0 y1)) ∧ (∀ y0 y1 y2 y3, LeO (group_Fresh.l0 k y0 y1 y2 y3) (group_Fresh.l0 (k + 1) y0 y1 y2 y3))
  | 0 => ⟨fun _ _ r h => by simp [group_Fresh.j0] at h, fun _ _ _ _ r h => by simp [group_Fresh.l0] at h⟩
  | k + 1 => by
    obtain ⟨ih0, ih1⟩ := group_Fresh.mono_l k
    refine ⟨?_, ?_⟩
    · intro y0 y1
      unfold group_Fresh.j0
      repeat' first
      | (with_reducible exact ih0 _ _)
      | (with_reducible exact ih1 _ _ _ _)
      | (with_reducible exact geom_Fixed.mono _ _)
      | (with_reducible exact LeO.refl _)
      | (with_reducible exact LeO.none _)
      | (with_reducible refine LeO.ite ?_ ?_)
      | (with_reducible refine LeO.bind ?_ (fun _ => ?_))
      | exact ih0 _ _
      | exact ih1 _ _ _ _
      | exact geom_Fixed.mono _ _
      | exact LeO.none _
      | refine LeO.ite ?_ ?_
      | refine LeO.bind ?_ (fun _ => ?_)
    · intro y0 y1 y2 y3
      unfold group_Fresh.l0
      repeat' first
      | (with_reducible exact ih0 _ _)
      | (with_reducible exact ih1 _ _ _ _)
      | (with_reducible exact geom_Fixed.mono _ _)
      | (with_reducible exact LeO.refl _)
      | (with_reducible exact LeO.none _)
      | (with_reducible refine LeO.ite ?_ ?_)
      | (with_reducible refine LeO.bind ?_ (fun _ => ?_))
      | exact ih0 _ _
      | exact ih1 _ _ _ _
      | exact geom_Fixed.mono _ _
      | exact LeO.none _
      | refine LeO.ite ?_ ?_
      | refine LeO.bind ?_ (fun _ => ?_)
theorem group_Fresh.mono : ∀ a0 k, LeO (group_Fresh.f k a0) (group_Fresh.f (k + 1) a0) := by
  intro a0 k
  obtain ⟨ih0, ih1⟩ := group_Fresh.mono_l k
  unfold group_Fresh.f
  repeat' first
      | (with_reducible exact ih0 _ _)
      | (with_reducible exact ih1 _ _ _ _)
      | (with_reducible exact geom_Fixed.mono _ _)
      | (with_reducible exact LeO.refl _)
      | (with_reducible exact LeO.none _)
      | (with_reducible refine LeO.ite ?_ ?_)
      | (with_reducible refine LeO.bind ?_ (fun _ => ?_))
      | exact ih0 _ _
      | exact ih1 _ _ _ _
      | exact geom_Fixed.mono _ _
      | exact LeO.none _
      | refine LeO.ite ?_ ?_
      | refine LeO.bind ?_ (fun _ => ?_)
set_option maxHeartbeats 8000000 in
set_option maxRecDepth 100000 in
theorem group_Fresh.calls (k : Nat) (a0 : Int) (r : List (S100)) (w : World) (h : group_Fresh.f k a0 = some r) :
    Calls Try.prog 59 #[.int .i64 a0] w fun e w' => ∃ v0_ : Value, e = .returned (v0_) ∧ Kd.R k100 100 w' w.heap.size (fun _ => True) v0_ r ∧ Below w.heap.size w w' := by
  have HB := Aside0.mk (Below.refl w.heap.size w)
  have H : (if a0 < 0 then (group_Fresh.j0 k a0 true) else (group_Fresh.j0 k a0 (decide (a0 ≥ 12)))) = some r := h
  clear h
  have HC2 := Aside0.mk H
  clear H
  go_enter Try.func59, Try.ntmps59
  go_upto_region 1 with (fail)
  go_cut [10] (fun v10 wc => ∃ (kq : Nat) (x10_1 : Bool), v10 = .bool x10_1 ∧ Aside0 (group_Fresh.j0 kq a0 x10_1 = some r) ∧ Aside0 (kq ≤ k) ∧ Aside0 (Below w.heap.size w wc))
  case first =>
    have H := HC2.out
    clear HC2
    by_cases c3 : a0 < 0
    · rw [if_pos c3] at H
      have c3b0 : decide (a0 < 0) = true := decide_eq_true c3
      clear c3
      (first | rw [c3b0] | (simp only [i64_w, i32_w]; rw [c3b0]) | skip)
      have H' := Aside0.mk H
      clear H
      go_wp2
      go_meet
      case rel => exact ⟨_, (true), (by first | rfl | (simp; done) | (simp [*]; done)), H', ⟨by first | omega | exact Nat.le_refl _⟩, ⟨by repeat (first | (with_reducible first | exact HB.out | apply below_alloc | apply pw_below_drewN | apply below_drew1) | exact HB.out)⟩⟩
    · rw [if_neg c3] at H
      have c3b0 : decide (a0 < 0) = false := decide_eq_false c3
      clear c3
      (first | rw [c3b0] | (simp only [i64_w, i32_w]; rw [c3b0]) | skip)
      have H' := Aside0.mk H
      clear H
      go_wp2
      go_meet
      case rel => exact ⟨_, (decide (a0 ≥ 12)), (by first | rfl | (simp; done) | (simp [*]; done)), H', ⟨by first | omega | exact Nat.le_refl _⟩, ⟨by repeat (first | (with_reducible first | exact HB.out | apply below_alloc | apply pw_below_drewN | apply below_drew1) | exact HB.out)⟩⟩
  case rest =>
    clear HC2
    try clear p2
    try clear c3
    try clear c3b0
    obtain ⟨kq, x10_1, rfl, HA, HJ1, HB⟩ := hcut
    cases kq with
    | zero => exact absurd HA.out (by simp [group_Fresh.j0])
    | succ kj1 =>
      have H := HA.out
      clear HA
      simp only [group_Fresh.j0] at H
      by_cases c4 : x10_1 = true
      · subst c4
        have H1 : (some ([] : List (S100))) = some r := by rw [if_pos rfl] at H; exact H
        clear H
        have H := H1
        clear H1
        obtain rfl := Option.some.inj H
        go_wp2
        go_ret
        exact ⟨_, by first | rfl | (simp [errW_none, errW_some] <;> rfl) | (simp [*, errW_none, errW_some] <;> rfl), by first | exact Kd.R_nil _ _ _ _ _ | exact Kd.N_nil _ _ _ _ _ | exact Kd.V_nil _ _ _ _ _ | exact Kd.Q_nil _ _ _ _ _ | exact Kd.S_nil _ _ _ _ _, by repeat (first | (with_reducible first | exact HB.out | apply below_alloc | apply pw_below_drewN | apply below_drew1) | exact HB.out)⟩
      · replace c4 := Bool.eq_false_iff.mpr c4
        subst c4
        have H1 : (if 64 ≤ 70368744177664 then ((some (List.replicate 64 z100 : List (S100))).bind fun y122 => (group_Fresh.l0 kj1 a0 y122 (y122.length : Int) 0)) else (none)) = some r := by rw [if_neg (show ¬ (false = true) by decide)] at H; exact H
        clear H
        have H := H1
        clear H1
        by_cases c5 : 64 ≤ 70368744177664
        · rw [if_pos c5] at H
          have c5b0 := eq_true c5
          have c5b1 : decide (64 ≤ 70368744177664) = true := decide_eq_true c5
          clear c5
          obtain ⟨y122, hy122⟩ : ∃ y_ : List (S100), y_ = (List.replicate 64 z100) := ⟨_, rfl⟩
          replace H : (group_Fresh.l0 kj1 a0 y122 (y122.length : Int) 0) = some r := by first | (rw [hy122]; with_reducible exact H) | (have H2_ := (Option.bind_some _ _).symm.trans H; rw [hy122]; with_reducible exact H2_) | (have H2_ := (Option.bind_some _ _).symm.trans H; with_reducible exact H2_) | with_reducible exact H | (rw [hy122]; exact H) | exact H
          have Ny122 := Aside0.mk hy122
          clear hy122
          have H' := Aside0.mk H
          clear H
          go_wp2_with (first | ((with_reducible refine gate_dst (N := 11) rfl ?_); refine Kd.R_make k100 _ 100 rfl (N := 11) rfl 92 _ _ rfl 64 rfl rfl Try.underlying92 (.agg #[(.int .u16 0), (.int .u16 0)]) 4 info100 rfl (by decide) (by omega) z100 (ok := fun _ => True) (okp := fun _ => True) (k100_mkM _ _ _ z100 ) (fun _ hk => hk) trivial (by omega) (by omega) (Below.refl _ _) (Nat.le_refl _) ?_; intro v123 w6 ho7 hb hg_ hnew_; clear hg_ hnew_; (first | rw [← Ny122.out] at ho7 | (simp only [Int.reduceToNat] at ho7; rw [← Ny122.out] at ho7)); have n0_ := Aside0.mk (Kd.R_lower ho7 (below_size (by repeat (first | (with_reducible first | exact HB.out | apply below_alloc | apply pw_below_drewN | apply below_drew1) | exact HB.out)))); have n1_ := Aside0.mk (below_step (by repeat (first | (with_reducible first | exact HB.out | apply below_alloc | apply pw_below_drewN | apply below_drew1) | exact HB.out)) hb); clear HB; have HO124 := n0_; have HB := n1_; clear n0_ n1_; clear hb ho7; obtain ⟨Ao8, co8, eo8⟩ := Kd.R_slice HO124.out; subst eo8))
          go_loopg [14] kj1 (fun kq v14 w' => ∃ (x3_2 : List (S100)) (x14_2 : Int), v14 = .int .i64 x14_2 ∧ Aside0 (group_Fresh.l0 kq a0 x3_2 (y122.length : Int) x14_2 = some r) ∧ Aside0 (kq ≤ kj1) ∧ Aside0 (Kd.R k100 100 w' w.heap.size (fun _ => True) (.slice Ao8 y122.length co8) x3_2) ∧ Aside0 (Below w.heap.size w w'))
          case atStart => exact ⟨(y122), (0), (by first | rfl | (simp; done) | (simp [*]; done)), H', ⟨Nat.le_refl _⟩, ⟨by (with_reducible repeat (first | apply Kd.R_alloc | apply Kd.R_drewN | apply Kd.R_drew)); exact HO124.out⟩, ⟨by repeat (first | (with_reducible first | exact HB.out | apply below_alloc | apply pw_below_drewN | apply below_drew1) | exact HB.out)⟩⟩
          case round =>
            clear H'
            try clear p2
            try clear c3
            try clear c3b0
            try clear c4
            try clear c5
            try clear c5b0
            try clear c5b1
            try clear p2
            obtain ⟨x3_2, x14_2, rfl, HA, HK2, HO_3, HB⟩ := hrel
            have hl3_2 := (Kd.R_reads' HO_3.out).1
            rw [hl3_2] at HO_3
            (try simp only [hl3_2])
            cases gk with
            | zero => exact absurd HA.out (by simp [group_Fresh.l0])
            | succ k2 =>
              have H := HA.out
              clear HA
              simp only [group_Fresh.l0] at H
              by_cases c9 : x14_2 < (y122.length : Int)
              · rw [if_pos c9] at H
                have c9b0 : decide (x14_2 < (y122.length : Int)) = true := decide_eq_true c9
                have c9b0x : decide (x14_2 < (x3_2.length : Int)) = true := by rw [← hl3_2]; exact c9b0
                clear c9
                replace H := Option.bind_eq_some_iff.mp H
                obtain ⟨t125, A100, H⟩ := H
                replace H : (if t125 = true then (if 0 ≤ x14_2 then (if x14_2 < (x3_2.length : Int) then (group_Fresh.l0 k2 a0 (x3_2.set (x14_2 : Int).toNat (⟨65535, (rd_T100 x3_2 x14_2).f1⟩ : S100)) (y122.length : Int) (wrap64 (x14_2 + 1))) else (none)) else (none)) else (group_Fresh.l0 k2 a0 x3_2 (y122.length : Int) (wrap64 (x14_2 + 1)))) = some r := H
                have A10 := Aside0.mk A100
                clear A100
                by_cases c11 : t125 = true
                · subst c11
                  have H1 : (if 0 ≤ x14_2 then (if x14_2 < (x3_2.length : Int) then (group_Fresh.l0 k2 a0 (x3_2.set (x14_2 : Int).toNat (⟨65535, (rd_T100 x3_2 x14_2).f1⟩ : S100)) (y122.length : Int) (wrap64 (x14_2 + 1))) else (none)) else (none)) = some r := by rw [if_pos rfl] at H; exact H
                  clear H
                  have H := H1
                  clear H1
                  by_cases c12 : 0 ≤ x14_2
                  · rw [if_pos c12] at H
                    have c12b0 : decide (0 ≤ x14_2) = true := decide_eq_true c12
                    clear c12
                    by_cases c13 : x14_2 < (x3_2.length : Int)
                    · rw [if_pos c13] at H
                      have c13b0 : decide (x14_2 < (x3_2.length : Int)) = true := decide_eq_true c13
                      clear c13
                      obtain ⟨y126, hy126⟩ : ∃ y_ : List (S100), y_ = (x3_2.set (x14_2 : Int).toNat (⟨65535, (rd_T100 x3_2 x14_2).f1⟩ : S100)) := ⟨_, rfl⟩
                      replace H : (group_Fresh.l0 k2 a0 y126 (y122.length : Int) (wrap64 (x14_2 + 1))) = some r := by first | (rw [hy126]; with_reducible exact H) | (have H2_ := (Option.bind_some _ _).symm.trans H; rw [hy126]; with_reducible exact H2_) | (have H2_ := (Option.bind_some _ _).symm.trans H; with_reducible exact H2_) | with_reducible exact H | (rw [hy126]; exact H) | exact H
                      have Ny126 := Aside0.mk hy126
                      clear hy126
                      have H' := Aside0.mk H
                      clear H
                      go_wp2_with (first | ((with_reducible refine gate_callee (f := 94) rfl ?_); refine goesL_ (some 21) rfl rfl Try.func94 (by kernel_rfl) rfl #[.int .i64 (wrap64 ((wrap64 (a0 * 64)) + x14_2))] rfl (by (try simp only [List.map_toArray, List.map_cons, List.map_nil]); first | done | rfl | (simp only [List.length_drop, List.length_take]; rfl)) ?_; (with_reducible refine (geom_Fixed.calls k2 (wrap64 ((wrap64 (a0 * 64)) + x14_2)) true _ A10.out).mono ?_); rintro e w' ⟨rfl, ⟨nd, rfl⟩⟩; refine ⟨_, rfl, ?_⟩; (try (rw [drewN_self wr]; generalize hq_ : World.drewN wr _ = wr; have n0_ : Aside0 (Kd.R k100 100 wr w.heap.size (fun _ => True) (.slice Ao8 x3_2.length co8) x3_2) := ⟨by rw [← hq_]; exact (by (with_reducible repeat (first | apply Kd.R_alloc | apply Kd.R_drewN | apply Kd.R_drew)); exact HO_3.out)⟩; have n1_ : Aside0 (Below w.heap.size w wr) := ⟨by rw [← hq_]; exact (by repeat (first | (with_reducible first | exact HB.out | apply below_alloc | apply pw_below_drewN | apply below_drew1) | exact HB.out))⟩; clear HO_3 HB hq_; have HO_3 := n0_; have HB := n1_; clear n0_ n1_)); have p14 : 0 ≤ (x14_2 : Int) := of_decide_eq_true (by first | (with_reducible assumption) | assumption); have q14 : (x14_2 : Int) < ((x3_2.length : Int) : Int) := of_decide_eq_true (by first | (with_reducible assumption) | assumption); obtain ⟨go14, co14, eo14, gb14, gl14, cl14, HG14⟩ := Kd.R_form HO_3.out (by omega); (first | cases eo14 | (injection eo14 with ea_ en_ ec_; (first | subst ea_ | (injection ea_ with ea_; subst ea_)); subst ec_; clear en_)); have GB14 := Aside0.mk gb14; have GG14 := Aside0.mk HG14; clear gb14 gl14 HG14; obtain ⟨ce14, hcl14, hM14, hcc14, hfr14⟩ := Kd.R_elem HO_3.out z100 (x14_2 : Int) p14 q14; obtain rfl := k100_openM hM14; have hx14_0 : wr.cell? ⟨go14, (x14_2 : Int).toNat * 2, none⟩ = some (.int .u16 ((rd_T100 x3_2 x14_2).f0)) := hcc14 0 _ rfl; have hx14_1 : wr.cell? ⟨go14, (x14_2 : Int).toNat * 2 + 1, none⟩ = some (.int .u16 ((rd_T100 x3_2 x14_2).f1)) := hcc14 1 _ rfl; have hf14_0 : wr.frozen? ⟨go14, (x14_2 : Int).toNat * 2, none⟩ = false := hfr14 0; have hf14_1 : wr.frozen? ⟨go14, (x14_2 : Int).toNat * 2 + 1, none⟩ = false := hfr14 1; clear hcl14 hcc14 hfr14 hM14; replace p14 := eq_true p14; replace q14 := eq_true q14; have HX15 := Aside0.mk (show Kd.R k100 100 wr w.heap.size (fun _ => True) (.slice (some ⟨go14, 0, none⟩) x3_2.length co8) x3_2 from (by (with_reducible repeat (first | apply Kd.R_alloc | apply Kd.R_drewN | apply Kd.R_drew)); exact HO_3.out)); obtain ⟨ce15, hcl15, hM15, hcc15, hfr15⟩ := Kd.R_elem HX15.out z100 (x14_2 : Int) (of_decide_eq_true (by first | (with_reducible assumption) | assumption)) (by have h_ : (x14_2 : Int) < ((x3_2.length : Int) : Int) := of_decide_eq_true (by first | (with_reducible assumption) | assumption); first | exact h_ | (have e_ := (Kd.R_reads' HO_3.out).1; omega) | simpa using h_); obtain rfl := k100_openM hM15; have HP15 := Kd.R_seg HX15.out (x14_2 : Int) (of_decide_eq_true (by first | (with_reducible assumption) | assumption)) (by have h_ : (x14_2 : Int) < ((x3_2.length : Int) : Int) := of_decide_eq_true (by first | (with_reducible assumption) | assumption); first | exact h_ | (have e_ := (Kd.R_reads' HO_3.out).1; omega) | simpa using h_) (seg := [.int .u16 65535]) (j := 0) hcl15 hcc15 (show 1 ≤ 2 from by decide) (x' := (⟨65535, (rd_T100 x3_2 x14_2).f1⟩ : S100)) (k100_mkM _ _ _ (⟨65535, (rd_T100 x3_2 x14_2).f1⟩ : S100) ) (fun _ hk => hk); have hx15_0 := hcc15 0 _ rfl; (try simp only [show (k100).sz = 2 from rfl, Nat.mul_one, Nat.add_zero] at hx15_0); have hf15_0 := hfr15 0; (try simp only [show (k100).sz = 2 from rfl, Nat.mul_one, Nat.add_zero] at hf15_0); clear hcl15 hcc15 hfr15 hM15) | ((with_reducible refine gate_store (t := 98) (p := 25) rfl ?_); refine store_event (t := 98) (p := 25) (v := ?vo_w16) (w1 := (wr.setCell ⟨go14, (x14_2 : Int).toNat * 2, none⟩ (.int .u16 65535))) ?hg ?ho ?hn ?hr ?_; (case ho => rfl); (case hg => rfl); (case hn => rfl); (case hr => first | (go_simp; done) | (go_simp; rfl)); intro w16 hw; have hg : wr.grownBy w16 (some go14) := (by rw [hw]; exact HP15.2); have hp_ : Kd.R k100 100 w16 w.heap.size (fun _ => True) (.slice (some ⟨go14, 0, none⟩) x3_2.length co8) y126 := (by rw [hw, Ny126.out]; exact HP15.1); clear HP15; have n0_ := Aside0.mk (hp_); have n1_ := Aside0.mk ((by rw [hw]; exact below_set (HB.out) GB14.out : Below w.heap.size w w16)); clear HO_3; clear HB; have HO_3 := n0_; have HB := n1_; clear n0_ n1_; clear hg hw hp_))
                      (try simp only [← hl3_2])
                      go_roundg k2
                      case measure => have := HJ1.out; have := HK2.out; omega
                      case rel => exact ⟨(y126), (wrap64 (x14_2 + 1)), (by first | rfl | (simp; done) | (simp [*]; done)), H', ⟨by have := HJ1.out; have := HK2.out; omega⟩, ⟨by (try simp only [hl3_2]); (with_reducible repeat (first | apply Kd.R_alloc | apply Kd.R_drewN | apply Kd.R_drew)); exact HO_3.out⟩, ⟨by repeat (first | (with_reducible first | exact HB.out | apply below_alloc | apply pw_below_drewN | apply below_drew1) | exact HB.out)⟩⟩
                    · rw [if_neg c13] at H
                      exact absurd H (by simp)
                  · rw [if_neg c12] at H
                    exact absurd H (by simp)
                · replace c11 := Bool.eq_false_iff.mpr c11
                  subst c11
                  have H1 : (group_Fresh.l0 k2 a0 x3_2 (y122.length : Int) (wrap64 (x14_2 + 1))) = some r := by rw [if_neg (show ¬ (false = true) by decide)] at H; exact H
                  clear H
                  have H := H1
                  clear H1
                  have H' := Aside0.mk H
                  clear H
                  go_wp2_with (first | ((with_reducible refine gate_callee (f := 94) rfl ?_); refine goesL_ (some 21) rfl rfl Try.func94 (by kernel_rfl) rfl #[.int .i64 (wrap64 ((wrap64 (a0 * 64)) + x14_2))] rfl (by (try simp only [List.map_toArray, List.map_cons, List.map_nil]); first | done | rfl | (simp only [List.length_drop, List.length_take]; rfl)) ?_; (with_reducible refine (geom_Fixed.calls k2 (wrap64 ((wrap64 (a0 * 64)) + x14_2)) false _ A10.out).mono ?_); rintro e w' ⟨rfl, ⟨nd, rfl⟩⟩; refine ⟨_, rfl, ?_⟩))
                  (try simp only [← hl3_2])
                  go_roundg k2
                  case measure => have := HJ1.out; have := HK2.out; omega
                  case rel => exact ⟨(x3_2), (wrap64 (x14_2 + 1)), (by first | rfl | (simp; done) | (simp [*]; done)), H', ⟨by have := HJ1.out; have := HK2.out; omega⟩, ⟨by (try simp only [hl3_2]); (with_reducible repeat (first | apply Kd.R_alloc | apply Kd.R_drewN | apply Kd.R_drew)); exact HO_3.out⟩, ⟨by repeat (first | (with_reducible first | exact HB.out | apply below_alloc | apply pw_below_drewN | apply below_drew1) | exact HB.out)⟩⟩
              · rw [if_neg c9] at H
                have c9b0 : decide (x14_2 < (y122.length : Int)) = false := decide_eq_false c9
                have c9b0x : decide (x14_2 < (x3_2.length : Int)) = false := by rw [← hl3_2]; exact c9b0
                clear c9
                obtain rfl := Option.some.inj H
                go_wp2
                go_ret
                exact ⟨_, by first | rfl | (simp [errW_none, errW_some] <;> rfl) | (simp [*, errW_none, errW_some] <;> rfl), by (with_reducible repeat (first | apply Kd.R_alloc | apply Kd.R_drewN | apply Kd.R_drew)); exact HO_3.out, by repeat (first | (with_reducible first | exact HB.out | apply below_alloc | apply pw_below_drewN | apply below_drew1) | exact HB.out)⟩
        · rw [if_neg c5] at H
          exact absurd H (by simp)

/-! ### ashlarlaw06_awake: function 47 -/
def ashlarlaw06_awake.f (k : Nat)  : Option (Bool) := (group_Fresh.f k 1).bind fun t127 => ((group_Page.f k t127).bind fun bt130 => (if (t127.length : Int) = 64 then (if bt130.2 = 0 then (some ((bt130.1.length : Int) == 256)) else (some false)) else (some false)))
theorem ashlarlaw06_awake.mono : ∀ k, LeO (ashlarlaw06_awake.f k ) (ashlarlaw06_awake.f (k + 1) ) := by
  intro  k
  unfold ashlarlaw06_awake.f
  repeat' first
      | (with_reducible exact group_Fresh.mono _ _)
      | (with_reducible exact group_Page.mono _ _)
      | (with_reducible exact LeO.refl _)
      | (with_reducible exact LeO.none _)
      | (with_reducible refine LeO.ite ?_ ?_)
      | (with_reducible refine LeO.bind ?_ (fun _ => ?_))
      | exact group_Fresh.mono _ _
      | exact group_Page.mono _ _
      | exact LeO.none _
      | refine LeO.ite ?_ ?_
      | refine LeO.bind ?_ (fun _ => ?_)
set_option maxHeartbeats 8000000 in
set_option maxRecDepth 100000 in
theorem ashlarlaw06_awake.calls (k : Nat)  (r : Bool) (w : World) (h : ashlarlaw06_awake.f k  = some r) :
    Calls Try.prog 47 #[] w fun e w' => e = .returned (.bool r) ∧ Below w.heap.size w w' := by
  have HB := Aside0.mk (Below.refl w.heap.size w)
  have H : ((group_Fresh.f k 1).bind fun t127 => ((group_Page.f k t127).bind fun bt130 => (if (t127.length : Int) = 64 then (if bt130.2 = 0 then (some ((bt130.1.length : Int) == 256)) else (some false)) else (some false)))) = some r := h
  clear h
  replace H := Option.bind_eq_some_iff.mp H
  obtain ⟨t127, A10, H⟩ := H
  replace H : ((group_Page.f k t127).bind fun bt130 => (if (t127.length : Int) = 64 then (if bt130.2 = 0 then (some ((bt130.1.length : Int) == 256)) else (some false)) else (some false))) = some r := H
  have A1 := Aside0.mk A10
  clear A10
  replace H := Option.bind_eq_some_iff.mp H
  obtain ⟨⟨t130, t131⟩, A20, H⟩ := H
  replace H : (if (t127.length : Int) = 64 then (if t131 = 0 then (some ((t130.length : Int) == 256)) else (some false)) else (some false)) = some r := H
  have A2 := Aside0.mk A20
  clear A20
  by_cases c3 : (t127.length : Int) = 64
  · rw [if_pos c3] at H
    have c3b0 : ((t127.length : Int) == 64) = true := beq_iff_eq.mpr c3
    have c3b1 : ((t127.length : Int) != 64) = false := bne_eq_false_iff_eq.mpr c3
    clear c3
    by_cases c4 : t131 = 0
    · rw [if_pos c4] at H
      have c4b0 : (t131 == 0) = true := beq_iff_eq.mpr c4
      have c4b1 : (t131 != 0) = false := bne_eq_false_iff_eq.mpr c4
      clear c4
      obtain rfl := Option.some.inj H
      go_enter Try.func47, Try.ntmps47
      go_wp2_with (first | ((with_reducible refine gate_callee (f := 59) rfl ?_); refine goesL_ (some 4) rfl rfl Try.func59 (by kernel_rfl) rfl #[.int .i64 1] rfl (by (try simp only [List.map_toArray, List.map_cons, List.map_nil]); first | done | rfl | (simp only [List.length_drop, List.length_take]; rfl)) ?_; (with_reducible refine (group_Fresh.calls k 1 t127 _ A1.out).mono ?_); rintro e w5 ⟨v128, rfl, ho0, hb⟩; refine ⟨_, rfl, ?_⟩; have n0_ := Aside0.mk (Kd.R_lower ho0 (below_size (by repeat (first | (with_reducible first | exact HB.out | apply below_alloc | apply pw_below_drewN | apply below_drew1) | exact HB.out)))); have n1_ := Aside0.mk (below_step (by repeat (first | (with_reducible first | exact HB.out | apply below_alloc | apply pw_below_drewN | apply below_drew1) | exact HB.out)) hb); clear HB; have HO129 := n0_; have HB := n1_; clear n0_ n1_; (try clear hb); (try clear hb2); (try clear hk); (try clear hi); (try clear ho0); obtain ⟨Ao6, co6, eo6⟩ := Kd.R_slice HO129.out; subst eo6) | ((with_reducible refine gate_callee (f := 49) rfl ?_); refine goesL_ (some 7) rfl rfl Try.func49 (by kernel_rfl) rfl #[.slice Ao6 t127.length co6] rfl (by (try simp only [List.map_toArray, List.map_cons, List.map_nil]); first | done | rfl | (simp only [List.length_drop, List.length_take]; rfl)) ?_; (with_reducible refine (group_Page.calls k _ _ t127 t130 t131 _ ?side1 ?side2 A2.out).mono ?_); (case side1 => repeat (first | exact (Kd.R_reads' HO129.out).2.2 | (with_reducible refine Kd.C_alloc ?_ _) | (with_reducible refine Kd.C_drewN ?_ _) | (with_reducible refine Kd.C_drew ?_))); (case side2 => exact (Kd.R_reads' HO129.out).2.1); rintro e w7 ⟨v132, rfl, ho0, hb⟩; refine ⟨_, rfl, ?_⟩; have n0_ := Aside0.mk (Kd.R_below (by (with_reducible repeat (first | apply Kd.R_alloc | apply Kd.R_drewN | apply Kd.R_drew)); exact HO129.out) hb); have n1_ := Aside0.mk (Kd.R_lower ho0 (below_size (by repeat (first | (with_reducible first | exact HB.out | apply below_alloc | apply pw_below_drewN | apply below_drew1) | exact HB.out)))); have n2_ := Aside0.mk (below_step (by repeat (first | (with_reducible first | exact HB.out | apply below_alloc | apply pw_below_drewN | apply below_drew1) | exact HB.out)) hb); clear HO129; clear HB; have HO129 := n0_; have HO133 := n1_; have HB := n2_; clear n0_ n1_ n2_; (try clear hb); (try clear hb2); (try clear hk); (try clear hi); (try clear ho0); obtain ⟨Ao8, co8, eo8⟩ := Kd.R_slice HO133.out; subst eo8))
      go_ret
      exact ⟨by first | rfl | (simp [errW_none, errW_some] <;> rfl) | (simp [*, errW_none, errW_some] <;> rfl), by repeat (first | (with_reducible first | exact HB.out | apply below_alloc | apply pw_below_drewN | apply below_drew1) | exact HB.out)⟩
    · rw [if_neg c4] at H
      have c4b0 : (t131 == 0) = false := beq_eq_false_iff_ne.mpr c4
      have c4b1 : (t131 != 0) = true := bne_iff_ne.mpr c4
      obtain rfl := Option.some.inj H
      go_enter Try.func47, Try.ntmps47
      go_wp2_with (first | ((with_reducible refine gate_callee (f := 59) rfl ?_); refine goesL_ (some 4) rfl rfl Try.func59 (by kernel_rfl) rfl #[.int .i64 1] rfl (by (try simp only [List.map_toArray, List.map_cons, List.map_nil]); first | done | rfl | (simp only [List.length_drop, List.length_take]; rfl)) ?_; (with_reducible refine (group_Fresh.calls k 1 t127 _ A1.out).mono ?_); rintro e w9 ⟨v128, rfl, ho0, hb⟩; refine ⟨_, rfl, ?_⟩; have n0_ := Aside0.mk (Kd.R_lower ho0 (below_size (by repeat (first | (with_reducible first | exact HB.out | apply below_alloc | apply pw_below_drewN | apply below_drew1) | exact HB.out)))); have n1_ := Aside0.mk (below_step (by repeat (first | (with_reducible first | exact HB.out | apply below_alloc | apply pw_below_drewN | apply below_drew1) | exact HB.out)) hb); clear HB; have HO129 := n0_; have HB := n1_; clear n0_ n1_; (try clear hb); (try clear hb2); (try clear hk); (try clear hi); (try clear ho0); obtain ⟨Ao10, co10, eo10⟩ := Kd.R_slice HO129.out; subst eo10) | ((with_reducible refine gate_callee (f := 49) rfl ?_); refine goesL_ (some 7) rfl rfl Try.func49 (by kernel_rfl) rfl #[.slice Ao10 t127.length co10] rfl (by (try simp only [List.map_toArray, List.map_cons, List.map_nil]); first | done | rfl | (simp only [List.length_drop, List.length_take]; rfl)) ?_; (with_reducible refine (group_Page.calls k _ _ t127 t130 t131 _ ?side1 ?side2 A2.out).mono ?_); (case side1 => repeat (first | exact (Kd.R_reads' HO129.out).2.2 | (with_reducible refine Kd.C_alloc ?_ _) | (with_reducible refine Kd.C_drewN ?_ _) | (with_reducible refine Kd.C_drew ?_))); (case side2 => exact (Kd.R_reads' HO129.out).2.1); rintro e w11 ⟨v132, rfl, ho0, hb⟩; refine ⟨_, rfl, ?_⟩; have n0_ := Aside0.mk (Kd.R_below (by (with_reducible repeat (first | apply Kd.R_alloc | apply Kd.R_drewN | apply Kd.R_drew)); exact HO129.out) hb); have n1_ := Aside0.mk (Kd.R_lower ho0 (below_size (by repeat (first | (with_reducible first | exact HB.out | apply below_alloc | apply pw_below_drewN | apply below_drew1) | exact HB.out)))); have n2_ := Aside0.mk (below_step (by repeat (first | (with_reducible first | exact HB.out | apply below_alloc | apply pw_below_drewN | apply below_drew1) | exact HB.out)) hb); clear HO129; clear HB; have HO129 := n0_; have HO133 := n1_; have HB := n2_; clear n0_ n1_ n2_; (try clear hb); (try clear hb2); (try clear hk); (try clear hi); (try clear ho0)))
      go_ret
      exact ⟨by first | rfl | (simp [errW_none, errW_some] <;> rfl) | (simp [*, errW_none, errW_some] <;> rfl), by repeat (first | (with_reducible first | exact HB.out | apply below_alloc | apply pw_below_drewN | apply below_drew1) | exact HB.out)⟩
  · rw [if_neg c3] at H
    have c3b0 : ((t127.length : Int) == 64) = false := beq_eq_false_iff_ne.mpr c3
    have c3b1 : ((t127.length : Int) != 64) = true := bne_iff_ne.mpr c3
    obtain rfl := Option.some.inj H
    go_enter Try.func47, Try.ntmps47
    go_wp2_with (first | ((with_reducible refine gate_callee (f := 59) rfl ?_); refine goesL_ (some 4) rfl rfl Try.func59 (by kernel_rfl) rfl #[.int .i64 1] rfl (by (try simp only [List.map_toArray, List.map_cons, List.map_nil]); first | done | rfl | (simp only [List.length_drop, List.length_take]; rfl)) ?_; (with_reducible refine (group_Fresh.calls k 1 t127 _ A1.out).mono ?_); rintro e w12 ⟨v128, rfl, ho0, hb⟩; refine ⟨_, rfl, ?_⟩; have n0_ := Aside0.mk (Kd.R_lower ho0 (below_size (by repeat (first | (with_reducible first | exact HB.out | apply below_alloc | apply pw_below_drewN | apply below_drew1) | exact HB.out)))); have n1_ := Aside0.mk (below_step (by repeat (first | (with_reducible first | exact HB.out | apply below_alloc | apply pw_below_drewN | apply below_drew1) | exact HB.out)) hb); clear HB; have HO129 := n0_; have HB := n1_; clear n0_ n1_; (try clear hb); (try clear hb2); (try clear hk); (try clear hi); (try clear ho0); obtain ⟨Ao13, co13, eo13⟩ := Kd.R_slice HO129.out; subst eo13) | ((with_reducible refine gate_callee (f := 49) rfl ?_); refine goesL_ (some 7) rfl rfl Try.func49 (by kernel_rfl) rfl #[.slice Ao13 t127.length co13] rfl (by (try simp only [List.map_toArray, List.map_cons, List.map_nil]); first | done | rfl | (simp only [List.length_drop, List.length_take]; rfl)) ?_; (with_reducible refine (group_Page.calls k _ _ t127 t130 t131 _ ?side1 ?side2 A2.out).mono ?_); (case side1 => repeat (first | exact (Kd.R_reads' HO129.out).2.2 | (with_reducible refine Kd.C_alloc ?_ _) | (with_reducible refine Kd.C_drewN ?_ _) | (with_reducible refine Kd.C_drew ?_))); (case side2 => exact (Kd.R_reads' HO129.out).2.1); rintro e w14 ⟨v132, rfl, ho0, hb⟩; refine ⟨_, rfl, ?_⟩; have n0_ := Aside0.mk (Kd.R_below (by (with_reducible repeat (first | apply Kd.R_alloc | apply Kd.R_drewN | apply Kd.R_drew)); exact HO129.out) hb); have n1_ := Aside0.mk (Kd.R_lower ho0 (below_size (by repeat (first | (with_reducible first | exact HB.out | apply below_alloc | apply pw_below_drewN | apply below_drew1) | exact HB.out)))); have n2_ := Aside0.mk (below_step (by repeat (first | (with_reducible first | exact HB.out | apply below_alloc | apply pw_below_drewN | apply below_drew1) | exact HB.out)) hb); clear HO129; clear HB; have HO129 := n0_; have HO133 := n1_; have HB := n2_; clear n0_ n1_ n2_; (try clear hb); (try clear hb2); (try clear hk); (try clear hi); (try clear ho0)))
    go_ret
    exact ⟨by first | rfl | (simp [errW_none, errW_some] <;> rfl) | (simp [*, errW_none, errW_some] <;> rfl), by repeat (first | (with_reducible first | exact HB.out | apply below_alloc | apply pw_below_drewN | apply below_drew1) | exact HB.out)⟩

/-! ### ashlarref01_Put: function 45 -/
mutual
def ashlarref01_Put.j0 : Nat → Int → Int → List Int → Bool → Option (List Int)
  | 0, _, _, _, _ => none
  | k + 1, x1, x2, x7, x17 => if x17 = true then (some x7) else (ashlarref01_Put.l0 k x1 x7 x2 0)
def ashlarref01_Put.l0 : Nat → Int → List Int → Int → Int → Option (List Int)
  | 0, _, _, _, _ => none
  | k + 1, x1, x7, x19, x20 => if x20 < x19 then (if 0 ≤ (wrap64 (8 * x20)) then (if x7.length < 140737488355328 then (ashlarref01_Put.l0 k x1 (x7 ++ [(shr .u64 x1 (wrap64 (8 * x20))) % 256]) x19 (wrap64 (x20 + 1))) else (none)) else (none)) else (some x7)
end
def ashlarref01_Put.f (k : Nat) (l0 : List Int) (a1 : Int) (a2 : Int) : Option (List Int) := (some (([] : List Int) : List Int)).bind fun y134 => (if y134.length + l0.length < 140737488355328 then ((some (y134 ++ l0 : List Int)).bind fun y137 => (if a2 < 1 then (ashlarref01_Put.j0 k a1 a2 y137 true) else (ashlarref01_Put.j0 k a1 a2 y137 (decide (a2 > 8))))) else (none))
theorem ashlarref01_Put.mono_l : ∀ k, (∀ y0 y1 y2 y3, LeO (ashlarref01_Put.j0 k y0 y1 y2 y3) (ashlarref01_Put.j0 (k + 1) y0 y1 y2 y3)) ∧ (∀ y0 y1 y2 y3, LeO (ashlarref01_Put.l0 k y0 y1 y2 y3) (ashlarref01_Put.l0 (k + 1) y0 y1 y2 y3))
  | 0 => ⟨fun _ _ _ _ r h => by simp [ashlarref01_Put.j0] at h, fun _ _ _ _ r h => by simp [ashlarref01_Put.l0] at h⟩
  | k + 1 => by
    obtain ⟨ih0, ih1⟩ := ashlarref01_Put.mono_l k
    refine ⟨?_, ?_⟩
    · intro y0 y1 y2 y3
      unfold ashlarref01_Put.j0
      repeat' first
      | (with_reducible exact ih0 _ _ _ _)
      | (with_reducible exact ih1 _ _ _ _)
      | (with_reducible exact LeO.refl _)
      | (with_reducible exact LeO.none _)
      | (with_reducible refine LeO.ite ?_ ?_)
      | (with_reducible refine LeO.bind ?_ (fun _ => ?_))
      | exact ih0 _ _ _ _
      | exact ih1 _ _ _ _
      | exact LeO.none _
      | refine LeO.ite ?_ ?_
      | refine LeO.bind ?_ (fun _ => ?_)
    · intro y0 y1 y2 y3
      unfold ashlarref01_Put.l0
      repeat' first
      | (with_reducible exact ih0 _ _ _ _)
      | (with_reducible exact ih1 _ _ _ _)
      | (with_reducible exact LeO.refl _)
      | (with_reducible exact LeO.none _)
      | (with_reducible refine LeO.ite ?_ ?_)
      | (with_reducible refine LeO.bind ?_ (fun _ => ?_))
      | exact ih0 _ _ _ _
      | exact ih1 _ _ _ _
      | exact LeO.none _
      | refine LeO.ite ?_ ?_
      | refine LeO.bind ?_ (fun _ => ?_)
theorem ashlarref01_Put.mono : ∀ a0 a1 a2 k, LeO (ashlarref01_Put.f k a0 a1 a2) (ashlarref01_Put.f (k + 1) a0 a1 a2) := by
  intro a0 a1 a2 k
  obtain ⟨ih0, ih1⟩ := ashlarref01_Put.mono_l k
  unfold ashlarref01_Put.f
  repeat' first
      | (with_reducible exact ih0 _ _ _ _)
      | (with_reducible exact ih1 _ _ _ _)
      | (with_reducible exact LeO.refl _)
      | (with_reducible exact LeO.none _)
      | (with_reducible refine LeO.ite ?_ ?_)
      | (with_reducible refine LeO.bind ?_ (fun _ => ?_))
      | exact ih0 _ _ _ _
      | exact ih1 _ _ _ _
      | exact LeO.none _
      | refine LeO.ite ?_ ?_
      | refine LeO.bind ?_ (fun _ => ?_)
set_option maxHeartbeats 8000000 in
set_option maxRecDepth 100000 in
theorem ashlarref01_Put.calls (k : Nat) (A0 : Option Addr) (c0 : Nat) (l0 : List Int) (a1 : Int) (a2 : Int) (r : List Int) (w : World) (hr0 : Kd.C (Kd.int .u8) w A0 l0.length l0) (hc0 : l0.length ≤ c0) (h : ashlarref01_Put.f k l0 a1 a2 = some r) :
    Calls Try.prog 45 #[.slice A0 l0.length c0, .int .u64 a1, .int .i64 a2] w fun e w' => ∃ v0_ : Value, e = .returned (v0_) ∧ Kd.R (Kd.int .u8) 5 w' w.heap.size (fun _ => True) v0_ r ∧ Below w.heap.size w w' := by
  have HR0 := Aside0.mk hr0
  have HC0 := Aside0.mk hc0
  clear hr0 hc0
  have HB := Aside0.mk (Below.refl w.heap.size w)
  have H : ((some (([] : List Int) : List Int)).bind fun y134 => (if y134.length + l0.length < 140737488355328 then ((some (y134 ++ l0 : List Int)).bind fun y137 => (if a2 < 1 then (ashlarref01_Put.j0 k a1 a2 y137 true) else (ashlarref01_Put.j0 k a1 a2 y137 (decide (a2 > 8))))) else (none))) = some r := h
  clear h
  obtain ⟨y134, hy134⟩ : ∃ y_ : List Int, y_ = (([] : List Int)) := ⟨_, rfl⟩
  replace H : (if y134.length + l0.length < 140737488355328 then ((some (y134 ++ l0 : List Int)).bind fun y137 => (if a2 < 1 then (ashlarref01_Put.j0 k a1 a2 y137 true) else (ashlarref01_Put.j0 k a1 a2 y137 (decide (a2 > 8))))) else (none)) = some r := by first | (rw [hy134]; with_reducible exact H) | (have H2_ := (Option.bind_some _ _).symm.trans H; rw [hy134]; with_reducible exact H2_) | (have H2_ := (Option.bind_some _ _).symm.trans H; with_reducible exact H2_) | with_reducible exact H | (rw [hy134]; exact H) | exact H
  have Ny134 := Aside0.mk hy134
  clear hy134
  by_cases c4 : y134.length + l0.length < 140737488355328
  · rw [if_pos c4] at H
    have LMc4 := Aside0.mk c4
    clear c4
    obtain ⟨y137, hy137⟩ : ∃ y_ : List Int, y_ = (y134 ++ l0) := ⟨_, rfl⟩
    replace H : (if a2 < 1 then (ashlarref01_Put.j0 k a1 a2 y137 true) else (ashlarref01_Put.j0 k a1 a2 y137 (decide (a2 > 8)))) = some r := by first | (rw [hy137]; with_reducible exact H) | (have H2_ := (Option.bind_some _ _).symm.trans H; rw [hy137]; with_reducible exact H2_) | (have H2_ := (Option.bind_some _ _).symm.trans H; with_reducible exact H2_) | with_reducible exact H | (rw [hy137]; exact H) | exact H
    have Ny137 := Aside0.mk hy137
    clear hy137
    have HC5 := Aside0.mk H
    clear H
    go_enter Try.func45, Try.ntmps45
    go_upto_region 2 with (first | ((with_reducible refine gate_dst (N := 9) rfl ?_); refine Kd.R_lit (Kd.int .u8) _ 5 ?hg (N := 9) ?hd (xs := ([] : List Int)) (inner := []) (ok := fun _ => True) (okp := fun _ => True) ?hr ?hp (fun _ hk => hk) trivial (Below.refl _ _) (Nat.le_refl _) (by simp) ?_; (case hd => rfl); (case hg => rfl); (case hr => first | (go_simp; done) | (go_simp; rfl)); (case hp => exact (Reps.none _ _)); intro v135 w6 ho7 hb hg_ hnew_; clear hg_ hnew_; (first | rw [← Ny134.out] at ho7 | (simp only [Int.reduceToNat] at ho7; rw [← Ny134.out] at ho7)); have n0_ := Aside0.mk (Kd.R_lower ho7 (below_size (by repeat (first | (with_reducible first | exact HB.out | apply below_alloc | apply pw_below_drewN | apply below_drew1) | exact HB.out)))); have n1_ := Aside0.mk (below_step (by repeat (first | (with_reducible first | exact HB.out | apply below_alloc | apply pw_below_drewN | apply below_drew1) | exact HB.out)) hb); clear HB; have HO136 := n0_; have HB := n1_; clear n0_ n1_; clear hb ho7) | ((with_reducible refine gate_builtin (b := .append) (xs := #[.tmp 9, .tmp 10]) rfl ?_); at_builtin; refine Kd.R_append_rows (Kd.int .u8) (w0 := w) w.heap.size rfl (.tmp 9) (.tmp 10) 23 5 (.int .u8 0) 1 rfl Try.underlying23 info5 rfl (by decide) (by omega) v135 y134 l0 _ _ _ (fun _ => True) (fun _ => False) rfl rfl ?aO ?aR (fun _ _ h => h) (fun _ h => h.elim) ?aF ?aB ?aS ?aL ?_; (case aR => repeat (first | exact (Kd.C_below HR0.out HB.out) | (with_reducible refine Kd.C_alloc ?_ _) | (with_reducible refine Kd.C_drewN ?_ _) | (with_reducible refine Kd.C_drew ?_))); (case aB => exact (by repeat (first | (with_reducible first | exact HB.out | apply below_alloc | apply pw_below_drewN | apply below_drew1) | exact HB.out))); (case aF => exact (fun _ _ => trivial)); (case aO => exact (by (with_reducible repeat (first | apply Kd.R_alloc | apply Kd.R_drewN | apply Kd.R_drew)); exact HO136.out)); (case aS => exact (below_size (by repeat (first | (with_reducible first | exact HB.out | apply below_alloc | apply pw_below_drewN | apply below_drew1) | exact HB.out)))); (case aL => have := LMc4.out; omega); intro v138 w8 ho hb hg hat; rw [← Ny137.out] at ho; have n0_ := Aside0.mk (hb); have n1_ := Aside0.mk (ho); clear HB; clear HO136; have HB := n0_; have HO139 := n1_; clear n0_ n1_; clear ho hb hg hat))
    (try simp only [Act.put, List.setIfInBounds_toArray, List.set_cons_zero, List.set_cons_succ])
    go_cut [17] (fun v17 wc => ∃ (kq : Nat) (x17_4 : Bool), v17 = .bool x17_4 ∧ Aside0 (ashlarref01_Put.j0 kq a1 a2 y137 x17_4 = some r) ∧ Aside0 (kq ≤ k) ∧ Aside0 (Kd.R (Kd.int .u8) 5 wc w.heap.size (fun _ => True) v138 y137) ∧ Aside0 (Below w.heap.size w wc))
    case first =>
      have H := HC5.out
      clear HC5
      by_cases c9 : a2 < 1
      · rw [if_pos c9] at H
        have c9b0 : decide (a2 < 1) = true := decide_eq_true c9
        clear c9
        (first | rw [c9b0] | (simp only [i64_w, i32_w]; rw [c9b0]) | skip)
        have H' := Aside0.mk H
        clear H
        go_wp2
        go_meet
        case rel => exact ⟨_, (true), (by first | rfl | (simp; done) | (simp [*]; done)), H', ⟨by first | omega | exact Nat.le_refl _⟩, ⟨by (with_reducible repeat (first | apply Kd.R_alloc | apply Kd.R_drewN | apply Kd.R_drew)); exact HO139.out⟩, ⟨by repeat (first | (with_reducible first | exact HB.out | apply below_alloc | apply pw_below_drewN | apply below_drew1) | exact HB.out)⟩⟩
      · rw [if_neg c9] at H
        have c9b0 : decide (a2 < 1) = false := decide_eq_false c9
        clear c9
        (first | rw [c9b0] | (simp only [i64_w, i32_w]; rw [c9b0]) | skip)
        have H' := Aside0.mk H
        clear H
        go_wp2
        go_meet
        case rel => exact ⟨_, (decide (a2 > 8)), (by first | rfl | (simp; done) | (simp [*]; done)), H', ⟨by first | omega | exact Nat.le_refl _⟩, ⟨by (with_reducible repeat (first | apply Kd.R_alloc | apply Kd.R_drewN | apply Kd.R_drew)); exact HO139.out⟩, ⟨by repeat (first | (with_reducible first | exact HB.out | apply below_alloc | apply pw_below_drewN | apply below_drew1) | exact HB.out)⟩⟩
    case rest =>
      clear HC5
      try clear p2
      try clear c4
      try clear c9
      try clear c9b0
      obtain ⟨kq, x17_4, rfl, HA, HJ4, HO_7, HB⟩ := hcut
      cases kq with
      | zero => exact absurd HA.out (by simp [ashlarref01_Put.j0])
      | succ kj4 =>
        have H := HA.out
        clear HA
        simp only [ashlarref01_Put.j0] at H
        by_cases c10 : x17_4 = true
        · subst c10
          have H1 : (some y137) = some r := by rw [if_pos rfl] at H; exact H
          clear H
          have H := H1
          clear H1
          obtain rfl := Option.some.inj H
          go_wp2
          go_ret
          exact ⟨_, by first | rfl | (simp [errW_none, errW_some] <;> rfl) | (simp [*, errW_none, errW_some] <;> rfl), by (with_reducible repeat (first | apply Kd.R_alloc | apply Kd.R_drewN | apply Kd.R_drew)); exact HO_7.out, by repeat (first | (with_reducible first | exact HB.out | apply below_alloc | apply pw_below_drewN | apply below_drew1) | exact HB.out)⟩
        · replace c10 := Bool.eq_false_iff.mpr c10
          subst c10
          have H1 : (ashlarref01_Put.l0 kj4 a1 y137 a2 0) = some r := by rw [if_neg (show ¬ (false = true) by decide)] at H; exact H
          clear H
          have H := H1
          clear H1
          have H' := Aside0.mk H
          clear H
          go_wp2
          go_loopg [7, 20] kj4 (fun kq v7 v20 w' => ∃ (x7_2 : List Int) (x20_2 : Int), v20 = .int .i64 x20_2 ∧ Aside0 (ashlarref01_Put.l0 kq a1 x7_2 a2 x20_2 = some r) ∧ Aside0 (kq ≤ kj4) ∧ Aside0 (Kd.R (Kd.int .u8) 5 w' w.heap.size (fun _ => True) v7 x7_2) ∧ Aside0 (Below w.heap.size w w'))
          case atStart => exact ⟨(y137), (0), (by first | rfl | (simp; done) | (simp [*]; done)), H', ⟨Nat.le_refl _⟩, ⟨by (with_reducible repeat (first | apply Kd.R_alloc | apply Kd.R_drewN | apply Kd.R_drew)); exact HO_7.out⟩, ⟨by repeat (first | (with_reducible first | exact HB.out | apply below_alloc | apply pw_below_drewN | apply below_drew1) | exact HB.out)⟩⟩
          case round =>
            clear H'
            try clear c1
            try clear p2
            try clear c4
            try clear c9
            try clear c9b0
            try clear c10
            try clear p2
            obtain ⟨x7_2, x20_2, rfl, HA, HK2, HO_7, HB⟩ := hrel
            cases gk with
            | zero => exact absurd HA.out (by simp [ashlarref01_Put.l0])
            | succ k2 =>
              have H := HA.out
              clear HA
              simp only [ashlarref01_Put.l0] at H
              by_cases c11 : x20_2 < a2
              · rw [if_pos c11] at H
                have c11b0 : decide (x20_2 < a2) = true := decide_eq_true c11
                clear c11
                obtain ⟨ji12, hji12⟩ : ∃ j_ : Int, (wrap64 (8 * x20_2)) = j_ := ⟨_, rfl⟩
                replace H : (if 0 ≤ (ji12) then (if x7_2.length < 140737488355328 then (ashlarref01_Put.l0 k2 a1 (x7_2 ++ [(shr .u64 a1 (ji12)) % 256]) a2 (wrap64 (x20_2 + 1))) else (none)) else (none)) = some r := by first | (rw [hji12] at H; exact H) | (simp only [hji12] at H ⊢; exact H)
                have hji12w : (IntKind.i64.wrap (8 * x20_2)) = ji12 := (i64_w _).trans hji12
                by_cases c13 : 0 ≤ (ji12)
                · rw [if_pos c13] at H
                  have c13b0 := eq_true c13
                  have c13b1 : decide (0 ≤ (ji12)) = true := decide_eq_true c13
                  clear c13
                  obtain ⟨ji14, hji14⟩ : ∃ j_ : Int, (shr .u64 a1 (ji12)) = j_ := ⟨_, rfl⟩
                  replace H : (if x7_2.length < 140737488355328 then (ashlarref01_Put.l0 k2 a1 (x7_2 ++ [(ji14) % 256]) a2 (wrap64 (x20_2 + 1))) else (none)) = some r := by first | (rw [hji14] at H; exact H) | (simp only [hji14] at H ⊢; exact H)
                  have hji14_ : (a1 / 2 ^ min (ji12).toNat 64) = ji14 := hji14
                  have hji14z : (ji12) ≤ 64 → (a1 / 2 ^ (ji12).toNat) = ji14 := shr_small hji14
                  by_cases c15 : x7_2.length < 140737488355328
                  · rw [if_pos c15] at H
                    have LMc15 := Aside0.mk c15
                    clear c15
                    obtain ⟨y140, hy140⟩ : ∃ y_ : List Int, y_ = (x7_2 ++ [(ji14) % 256]) := ⟨_, rfl⟩
                    replace H : (ashlarref01_Put.l0 k2 a1 y140 a2 (wrap64 (x20_2 + 1))) = some r := by first | (rw [hy140]; with_reducible exact H) | (have H2_ := (Option.bind_some _ _).symm.trans H; rw [hy140]; with_reducible exact H2_) | (have H2_ := (Option.bind_some _ _).symm.trans H; with_reducible exact H2_) | with_reducible exact H | (rw [hy140]; exact H) | exact H
                    have Ny140 := Aside0.mk hy140
                    clear hy140
                    have H' := Aside0.mk H
                    clear H
                    go_wp2_with (first | ((with_reducible refine gate_builtin (b := .append) (xs := #[.tmp 23, .tmp 29]) rfl ?_); at_builtin; refine Kd.R_append (Kd.int .u8) (w0 := w) w.heap.size rfl (.tmp 23) (.tmp 29) 23 5 (.int .u8 0) 1 rfl Try.underlying23 info5 rfl (by decide) (by omega) u7 x7_2 ((ji14) % 256) [.int .u8 ((ji14) % 256)] (fun _ => True) (fun _ => False) rfl rfl ?aP (fun _ hk => hk.elim) ?aF ?aO ?aB ?aS ?aL ?_; (case aP => exact rfl); (case aB => exact (by repeat (first | (with_reducible first | exact HB.out | apply below_alloc | apply pw_below_drewN | apply below_drew1) | exact HB.out))); (case aF => exact (fun _ _ => trivial)); (case aO => exact (by (with_reducible repeat (first | apply Kd.R_alloc | apply Kd.R_drewN | apply Kd.R_drew)); exact HO_7.out)); (case aS => exact (below_size (by repeat (first | (with_reducible first | exact HB.out | apply below_alloc | apply pw_below_drewN | apply below_drew1) | exact HB.out)))); (case aL => have := LMc15.out; omega); intro v141 w16 ho hb hg hat; rw [← Ny140.out] at ho; have n0_ := Aside0.mk (hb); have n1_ := Aside0.mk (ho); clear HB; clear HO_7; have HB := n0_; have HO142 := n1_; clear n0_ n1_; clear ho hb hg hat))
                    go_roundg k2
                    case measure => have := HJ4.out; have := HK2.out; omega
                    case rel => exact ⟨(y140), (wrap64 (x20_2 + 1)), (by first | rfl | (simp; done) | (simp [*]; done)), H', ⟨by have := HJ4.out; have := HK2.out; omega⟩, ⟨by (with_reducible repeat (first | apply Kd.R_alloc | apply Kd.R_drewN | apply Kd.R_drew)); exact HO142.out⟩, ⟨by repeat (first | (with_reducible first | exact HB.out | apply below_alloc | apply pw_below_drewN | apply below_drew1) | exact HB.out)⟩⟩
                  · rw [if_neg c15] at H
                    exact absurd H (by simp)
                · rw [if_neg c13] at H
                  exact absurd H (by simp)
              · rw [if_neg c11] at H
                have c11b0 : decide (x20_2 < a2) = false := decide_eq_false c11
                clear c11
                obtain rfl := Option.some.inj H
                go_wp2
                go_ret
                exact ⟨_, by first | rfl | (simp [errW_none, errW_some] <;> rfl) | (simp [*, errW_none, errW_some] <;> rfl), by (with_reducible repeat (first | apply Kd.R_alloc | apply Kd.R_drewN | apply Kd.R_drew)); exact HO_7.out, by repeat (first | (with_reducible first | exact HB.out | apply below_alloc | apply pw_below_drewN | apply below_drew1) | exact HB.out)⟩
  · rw [if_neg c4] at H
    exact absurd H (by simp)

/-! ### ashlarref05_FormedOwner: function 55 -/
def ashlarref05_FormedOwner.j0 : Nat → Bool → Int → Int → Option (Bool)
  | 0, _, _, _ => none
  | k + 1, x3, x144000, x144001 => if x3 = true then (some (x144001 == 0)) else (if x144000 = 65534 then (some (decide (x144001 < 6))) else (if x144000 ≤ 47 then (if x144001 < 138 then (some true) else (some (x144001 == 65535))) else (some false)))
def ashlarref05_FormedOwner.f (k : Nat) (a0_0 : Int) (a0_1 : Int) : Option (Bool) := if a0_0 = 0 then (ashlarref05_FormedOwner.j0 k true a0_0 a0_1) else (ashlarref05_FormedOwner.j0 k (a0_0 == 65535) a0_0 a0_1)
theorem ashlarref05_FormedOwner.mono_l : ∀ k, (∀ y0 y1 y2, LeO (ashlarref05_FormedOwner.j0 k y0 y1 y2) (ashlarref05_FormedOwner.j0 (k + 1) y0 y1 y2))
  | 0 => fun _ _ _ r h => by simp [ashlarref05_FormedOwner.j0] at h
  | k + 1 => by
    have ih0 := ashlarref05_FormedOwner.mono_l k
    · intro y0 y1 y2
      unfold ashlarref05_FormedOwner.j0
      repeat' first
      | (with_reducible exact ih0 _ _ _)
      | (with_reducible exact LeO.refl _)
      | (with_reducible exact LeO.none _)
      | (with_reducible refine LeO.ite ?_ ?_)
      | (with_reducible refine LeO.bind ?_ (fun _ => ?_))
      | exact ih0 _ _ _
      | exact LeO.none _
      | refine LeO.ite ?_ ?_
      | refine LeO.bind ?_ (fun _ => ?_)
theorem ashlarref05_FormedOwner.mono : ∀ a0 a1 k, LeO (ashlarref05_FormedOwner.f k a0 a1) (ashlarref05_FormedOwner.f (k + 1) a0 a1) := by
  intro a0 a1 k
  have ih0 := ashlarref05_FormedOwner.mono_l k
  unfold ashlarref05_FormedOwner.f
  repeat' first
      | (with_reducible exact ih0 _ _ _)
      | (with_reducible exact LeO.refl _)
      | (with_reducible exact LeO.none _)
      | (with_reducible refine LeO.ite ?_ ?_)
      | (with_reducible refine LeO.bind ?_ (fun _ => ?_))
      | exact ih0 _ _ _
      | exact LeO.none _
      | refine LeO.ite ?_ ?_
      | refine LeO.bind ?_ (fun _ => ?_)
set_option maxHeartbeats 8000000 in
set_option maxRecDepth 100000 in
theorem ashlarref05_FormedOwner.calls (k : Nat) (a0_0 : Int) (a0_1 : Int) (r : Bool) (w : World) (h : ashlarref05_FormedOwner.f k a0_0 a0_1 = some r) :
    Calls Try.prog 55 #[.agg #[.int .u16 a0_0, .int .u16 a0_1]] w fun e w' => e = .returned (.bool r) ∧ Below w.heap.size w w' := by
  have hu100 := Try.underlying100
  have HB := Aside0.mk (Below.refl w.heap.size w)
  have H : (if a0_0 = 0 then (ashlarref05_FormedOwner.j0 k true a0_0 a0_1) else (ashlarref05_FormedOwner.j0 k (a0_0 == 65535) a0_0 a0_1)) = some r := h
  clear h
  have HC2 := Aside0.mk H
  clear H
  go_enter Try.func55, Try.ntmps55
  go_upto_region 1 with (first | ((with_reducible refine gate_dst (N := 1) rfl ?_); refine box_event ?hg (N := 1) ?hd (cs := #[.int .u16 a0_0, .int .u16 a0_1]) (t := 100) ?hr ?_; (case hd => rfl); (case hg => rfl); (case hr => first | (go_simp; done) | (go_simp; rfl)); intro gb143 hg w3 hbox hb; have n0_ := Aside0.mk (below_step (by repeat (first | (with_reducible first | exact HB.out | apply below_alloc | apply pw_below_drewN | apply below_drew1) | exact HB.out)) hb); have n1_ := Aside0.mk (hbox); have n2_ := Aside0.mk ((by rw [hg]; exact (below_size (by repeat (first | (with_reducible first | exact HB.out | apply below_alloc | apply pw_below_drewN | apply below_drew1) | exact HB.out))) : w.heap.size ≤ gb143)); have n3_ := Aside0.mk ((by rw [hg]; exact (below_size (by repeat (first | (with_reducible first | exact HB.out | apply below_alloc | apply pw_below_drewN | apply below_drew1) | exact HB.out))) : w.heap.size ≤ gb143)); clear HB; have HB := n0_; have BK143 := n1_; have GW143 := n2_; have GE143 := n3_; clear n0_ n1_ n2_ n3_; clear hb hbox hg))
  (try simp only [Act.put, List.setIfInBounds_toArray, List.set_cons_zero, List.set_cons_succ])
  go_cut [3] (fun v3 wc => ∃ (kq : Nat) (x3_1 : Bool), v3 = .bool x3_1 ∧ Aside0 (ashlarref05_FormedOwner.j0 kq x3_1 a0_0 a0_1 = some r) ∧ Aside0 (kq ≤ k) ∧ Aside0 (wc.heap[gb143]? = some (.cells #[.int .u16 a0_0, .int .u16 a0_1] 100 (0, 0))) ∧ Aside0 (Below w.heap.size w wc))
  case first =>
    have H := HC2.out
    clear HC2
    by_cases c4 : a0_0 = 0
    · rw [if_pos c4] at H
      have c4b0 : (a0_0 == 0) = true := beq_iff_eq.mpr c4
      have c4b1 : (a0_0 != 0) = false := bne_eq_false_iff_eq.mpr c4
      clear c4
      (first | rw [c4b0] | (simp only [i64_w, i32_w]; rw [c4b0]) | skip)
      have H' := Aside0.mk H
      clear H
      have hcz5_0 : w3.cell? ⟨gb143, 0, none⟩ = some (.int .u16 a0_0) := (blk_cell BK143.out 0).trans rfl
      have hcz5_1 : w3.cell? ⟨gb143, 1, none⟩ = some (.int .u16 a0_1) := (blk_cell BK143.out 1).trans rfl
      have hfz5_0 := blk_frozen BK143.out 0
      have hfz5_1 := blk_frozen BK143.out 1
      go_wp2
      go_meet
      case rel => exact ⟨_, (true), (by first | rfl | (simp; done) | (simp [*]; done)), H', ⟨by first | omega | exact Nat.le_refl _⟩, ⟨by (with_reducible repeat (first | refine blk_drewN ?_ _ | refine blk_drew ?_ | refine blk_alloc ?_ _)); exact BK143.out⟩, ⟨by repeat (first | (with_reducible first | exact HB.out | apply below_alloc | apply pw_below_drewN | apply below_drew1 | refine below_set ?_ GE143.out) | exact HB.out)⟩⟩
    · rw [if_neg c4] at H
      have c4b0 : (a0_0 == 0) = false := beq_eq_false_iff_ne.mpr c4
      have c4b1 : (a0_0 != 0) = true := bne_iff_ne.mpr c4
      (first | rw [c4b0] | (simp only [i64_w, i32_w]; rw [c4b0]) | skip)
      have H' := Aside0.mk H
      clear H
      have hcz6_0 : w3.cell? ⟨gb143, 0, none⟩ = some (.int .u16 a0_0) := (blk_cell BK143.out 0).trans rfl
      have hcz6_1 : w3.cell? ⟨gb143, 1, none⟩ = some (.int .u16 a0_1) := (blk_cell BK143.out 1).trans rfl
      have hfz6_0 := blk_frozen BK143.out 0
      have hfz6_1 := blk_frozen BK143.out 1
      go_wp2
      go_meet
      case rel => exact ⟨_, ((a0_0 == 65535)), (by first | rfl | (simp; done) | (simp [*]; done)), H', ⟨by first | omega | exact Nat.le_refl _⟩, ⟨by (with_reducible repeat (first | refine blk_drewN ?_ _ | refine blk_drew ?_ | refine blk_alloc ?_ _)); exact BK143.out⟩, ⟨by repeat (first | (with_reducible first | exact HB.out | apply below_alloc | apply pw_below_drewN | apply below_drew1 | refine below_set ?_ GE143.out) | exact HB.out)⟩⟩
  case rest =>
    clear HC2
    try clear p2
    try clear c4
    try clear c4b0
    try clear c4b1
    try clear c5
    try clear hcz5_0
    try clear hcz5_1
    try clear hcz6_0
    try clear hcz6_1
    try clear hfz5_0
    try clear hfz5_1
    try clear hfz6_0
    try clear hfz6_1
    obtain ⟨kq, x3_1, rfl, HA, HJ1, BK143, HB⟩ := hcut
    cases kq with
    | zero => exact absurd HA.out (by simp [ashlarref05_FormedOwner.j0])
    | succ kj1 =>
      have H := HA.out
      clear HA
      simp only [ashlarref05_FormedOwner.j0] at H
      by_cases c7 : x3_1 = true
      · subst c7
        have H1 : (some (a0_1 == 0)) = some r := by rw [if_pos rfl] at H; exact H
        clear H
        have H := H1
        clear H1
        obtain rfl := Option.some.inj H
        have hcz8_0 : wc.cell? ⟨gb143, 0, none⟩ = some (.int .u16 a0_0) := (blk_cell BK143.out 0).trans rfl
        have hcz8_1 : wc.cell? ⟨gb143, 1, none⟩ = some (.int .u16 a0_1) := (blk_cell BK143.out 1).trans rfl
        have hfz8_0 := blk_frozen BK143.out 0
        have hfz8_1 := blk_frozen BK143.out 1
        go_wp2
        go_ret
        exact ⟨by first | rfl | (simp [errW_none, errW_some] <;> rfl) | (simp [*, errW_none, errW_some] <;> rfl), by repeat (first | (with_reducible first | exact HB.out | apply below_alloc | apply pw_below_drewN | apply below_drew1 | refine below_set ?_ GE143.out) | exact HB.out)⟩
      · replace c7 := Bool.eq_false_iff.mpr c7
        subst c7
        have H1 : (if a0_0 = 65534 then (some (decide (a0_1 < 6))) else (if a0_0 ≤ 47 then (if a0_1 < 138 then (some true) else (some (a0_1 == 65535))) else (some false))) = some r := by rw [if_neg (show ¬ (false = true) by decide)] at H; exact H
        clear H
        have H := H1
        clear H1
        by_cases c9 : a0_0 = 65534
        · rw [if_pos c9] at H
          have c9b0 : (a0_0 == 65534) = true := beq_iff_eq.mpr c9
          have c9b1 : (a0_0 != 65534) = false := bne_eq_false_iff_eq.mpr c9
          clear c9
          obtain rfl := Option.some.inj H
          have hcz10_0 : wc.cell? ⟨gb143, 0, none⟩ = some (.int .u16 a0_0) := (blk_cell BK143.out 0).trans rfl
          have hcz10_1 : wc.cell? ⟨gb143, 1, none⟩ = some (.int .u16 a0_1) := (blk_cell BK143.out 1).trans rfl
          have hfz10_0 := blk_frozen BK143.out 0
          have hfz10_1 := blk_frozen BK143.out 1
          go_wp2
          go_ret
          exact ⟨by first | rfl | (simp [errW_none, errW_some] <;> rfl) | (simp [*, errW_none, errW_some] <;> rfl), by repeat (first | (with_reducible first | exact HB.out | apply below_alloc | apply pw_below_drewN | apply below_drew1 | refine below_set ?_ GE143.out) | exact HB.out)⟩
        · rw [if_neg c9] at H
          have c9b0 : (a0_0 == 65534) = false := beq_eq_false_iff_ne.mpr c9
          have c9b1 : (a0_0 != 65534) = true := bne_iff_ne.mpr c9
          by_cases c11 : a0_0 ≤ 47
          · rw [if_pos c11] at H
            have c11b0 : decide (a0_0 ≤ 47) = true := decide_eq_true c11
            clear c11
            by_cases c12 : a0_1 < 138
            · rw [if_pos c12] at H
              have c12b0 : decide (a0_1 < 138) = true := decide_eq_true c12
              clear c12
              obtain rfl := Option.some.inj H
              have hcz13_0 : wc.cell? ⟨gb143, 0, none⟩ = some (.int .u16 a0_0) := (blk_cell BK143.out 0).trans rfl
              have hcz13_1 : wc.cell? ⟨gb143, 1, none⟩ = some (.int .u16 a0_1) := (blk_cell BK143.out 1).trans rfl
              have hfz13_0 := blk_frozen BK143.out 0
              have hfz13_1 := blk_frozen BK143.out 1
              go_wp2
              go_ret
              exact ⟨by first | rfl | (simp [errW_none, errW_some] <;> rfl) | (simp [*, errW_none, errW_some] <;> rfl), by repeat (first | (with_reducible first | exact HB.out | apply below_alloc | apply pw_below_drewN | apply below_drew1 | refine below_set ?_ GE143.out) | exact HB.out)⟩
            · rw [if_neg c12] at H
              have c12b0 : decide (a0_1 < 138) = false := decide_eq_false c12
              clear c12
              obtain rfl := Option.some.inj H
              have hcz14_0 : wc.cell? ⟨gb143, 0, none⟩ = some (.int .u16 a0_0) := (blk_cell BK143.out 0).trans rfl
              have hcz14_1 : wc.cell? ⟨gb143, 1, none⟩ = some (.int .u16 a0_1) := (blk_cell BK143.out 1).trans rfl
              have hfz14_0 := blk_frozen BK143.out 0
              have hfz14_1 := blk_frozen BK143.out 1
              go_wp2
              go_ret
              exact ⟨by first | rfl | (simp [errW_none, errW_some] <;> rfl) | (simp [*, errW_none, errW_some] <;> rfl), by repeat (first | (with_reducible first | exact HB.out | apply below_alloc | apply pw_below_drewN | apply below_drew1 | refine below_set ?_ GE143.out) | exact HB.out)⟩
          · rw [if_neg c11] at H
            have c11b0 : decide (a0_0 ≤ 47) = false := decide_eq_false c11
            clear c11
            obtain rfl := Option.some.inj H
            have hcz15_0 : wc.cell? ⟨gb143, 0, none⟩ = some (.int .u16 a0_0) := (blk_cell BK143.out 0).trans rfl
            have hcz15_1 : wc.cell? ⟨gb143, 1, none⟩ = some (.int .u16 a0_1) := (blk_cell BK143.out 1).trans rfl
            have hfz15_0 := blk_frozen BK143.out 0
            have hfz15_1 := blk_frozen BK143.out 1
            go_wp2
            go_ret
            exact ⟨by first | rfl | (simp [errW_none, errW_some] <;> rfl) | (simp [*, errW_none, errW_some] <;> rfl), by repeat (first | (with_reducible first | exact HB.out | apply below_alloc | apply pw_below_drewN | apply below_drew1 | refine below_set ?_ GE143.out) | exact HB.out)⟩

end Go.Proofs.Ytignifnkjlldpaa.PGroupPages
