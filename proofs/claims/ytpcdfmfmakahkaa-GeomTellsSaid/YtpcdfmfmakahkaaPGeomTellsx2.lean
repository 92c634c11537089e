-- PRINTED BY print.sh 35421559b90ae4d0a3588c463048766b98c2df88dd9212a6774a882060cdf62d: not written by this session
import Derived.Test.YtpcdfmfmakahkaaPGeomTellsx0
import Derived.Test.YtpcdfmfmakahkaaPGeomTellsx1
namespace Go.Proofs.Ytpcdfmfmakahkaa.PGeomTells
open Go.RowKit Go.Proofs.YtpcdfmfmakahkaaW.PrintWords Go.Proofs.YtpcdfmfmakahkaaW.PrintLast Go.Proofs.YtpcdfmfmakahkaaW.PrintMore
attribute [local go_sem] max2_int min2_int max_two min_two max_three min_three max_four min_four   -- for this text's walks alone
set_option linter.unusedVariables false
set_option linter.unusedSimpArgs false

/-! ### ashlarref01_Desc: function 25 -/
def ashlarref01_Desc.j0 : Nat → Int → Bool → Option (Int)
  | 0, _, _ => none
  | k + 1, x0, x3 => if x3 = true then (some (-1)) else (if x0 = 0 then (some 1) else (some (wrap64 (64 * x0))))
def ashlarref01_Desc.f (k : Nat) (a0 : Int) : Option (Int) := if a0 < 0 then (ashlarref01_Desc.j0 k a0 true) else (ashlarref01_Desc.j0 k a0 (decide (a0 > 11)))
theorem ashlarref01_Desc.mono_l : ∀ k, (∀ y0 y1, LeO (ashlarref01_Desc.j0 k y0 y1) (ashlarref01_Desc.j0 (k + 1) y0 y1))
  | 0 => fun _ _ r h => by simp [ashlarref01_Desc.j0] at h
  | k + 1 => by
    have ih0 := ashlarref01_Desc.mono_l k
    · intro y0 y1
      unfold ashlarref01_Desc.j0
      repeat' first
      | (with_reducible exact ih0 _ _)
      | (with_reducible exact LeO.refl _)
      | (with_reducible exact LeO.none _)
      | (with_reducible refine LeO.ite ?_ ?_)
      | (with_reducible refine LeO.bind ?_ (fun _ => ?_))
      | exact ih0 _ _
      | exact LeO.none _
      | refine LeO.ite ?_ ?_
      | refine LeO.bind ?_ (fun _ => ?_)
theorem ashlarref01_Desc.mono : ∀ a0 k, LeO (ashlarref01_Desc.f k a0) (ashlarref01_Desc.f (k + 1) a0) := by
  intro a0 k
  have ih0 := ashlarref01_Desc.mono_l k
  unfold ashlarref01_Desc.f
  repeat' first
      | (with_reducible exact ih0 _ _)
      | (with_reducible exact LeO.refl _)
      | (with_reducible exact LeO.none _)
      | (with_reducible refine LeO.ite ?_ ?_)
      | (with_reducible refine LeO.bind ?_ (fun _ => ?_))
      | exact ih0 _ _
      | exact LeO.none _
      | refine LeO.ite ?_ ?_
      | refine LeO.bind ?_ (fun _ => ?_)
set_option maxHeartbeats 8000000 in
set_option maxRecDepth 100000 in
theorem ashlarref01_Desc.calls (k : Nat) (a0 : Int) (r : Int) (w : World) (h : ashlarref01_Desc.f k a0 = some r) :
    Calls Try.prog 25 #[.int .i64 a0] w fun e w' => e = .returned (.int .i64 r) ∧ Drawn0 w w' := by
  have H : (if a0 < 0 then (ashlarref01_Desc.j0 k a0 true) else (ashlarref01_Desc.j0 k a0 (decide (a0 > 11)))) = some r := h
  clear h
  have HC2 := Aside0.mk H
  clear H
  go_enter Try.func25, Try.ntmps25
  go_upto_region 1 with (fail)
  go_cut [3] (fun v3 wc => ∃ (kq : Nat) (x3_1 : Bool), v3 = .bool x3_1 ∧ Aside0 (ashlarref01_Desc.j0 kq a0 x3_1 = some r) ∧ Aside0 (kq ≤ k) ∧ Drawn0 w wc)
  case first =>
    have H := HC2.out
    clear HC2
    by_cases c3 : a0 < 0
    · rw [if_pos c3] at H
      have c3b0 : decide (a0 < 0) = true := decide_eq_true c3
      clear c3
      (first | rw [c3b0] | (simp only [i64_w, i32_w]; rw [c3b0]) | skip)
      have H' := Aside0.mk H
      clear H
      go_wp2
      go_meet
      case rel => exact ⟨_, (true), (by first | rfl | (simp; done) | (simp [*]; done)), H', ⟨by first | omega | exact Nat.le_refl _⟩, by repeat (first | exact Drawn0.refl _ | apply Drawn0.step)⟩
    · rw [if_neg c3] at H
      have c3b0 : decide (a0 < 0) = false := decide_eq_false c3
      clear c3
      (first | rw [c3b0] | (simp only [i64_w, i32_w]; rw [c3b0]) | skip)
      have H' := Aside0.mk H
      clear H
      go_wp2
      go_meet
      case rel => exact ⟨_, (decide (a0 > 11)), (by first | rfl | (simp; done) | (simp [*]; done)), H', ⟨by first | omega | exact Nat.le_refl _⟩, by repeat (first | exact Drawn0.refl _ | apply Drawn0.step)⟩
  case rest =>
    clear HC2
    try clear c2
    try clear p2
    try clear c3
    try clear c3b0
    obtain ⟨kq, x3_1, rfl, HA, HJ1, ⟨mc1, rfl⟩⟩ := hcut
    cases kq with
    | zero => exact absurd HA.out (by simp [ashlarref01_Desc.j0])
    | succ kj1 =>
      have H := HA.out
      clear HA
      simp only [ashlarref01_Desc.j0] at H
      by_cases c4 : x3_1 = true
      · subst c4
        have H1 : (some (-1)) = some r := by rw [if_pos rfl] at H; exact H
        clear H
        have H := H1
        clear H1
        obtain rfl := Option.some.inj H
        go_wp2
        go_ret
        exact ⟨by first | rfl | (simp; done) | (simp [*]; done), by repeat (first | exact Drawn0.refl _ | apply Drawn0.step)⟩
      · replace c4 := Bool.eq_false_iff.mpr c4
        subst c4
        have H1 : (if a0 = 0 then (some 1) else (some (wrap64 (64 * a0)))) = some r := by rw [if_neg (show ¬ (false = true) by decide)] at H; exact H
        clear H
        have H := H1
        clear H1
        by_cases c5 : a0 = 0
        · rw [if_pos c5] at H
          have c5b0 : (a0 == 0) = true := beq_iff_eq.mpr c5
          have c5b1 : (a0 != 0) = false := bne_eq_false_iff_eq.mpr c5
          clear c5
          obtain rfl := Option.some.inj H
          go_wp2
          go_ret
          exact ⟨by first | rfl | (simp; done) | (simp [*]; done), by repeat (first | exact Drawn0.refl _ | apply Drawn0.step)⟩
        · rw [if_neg c5] at H
          have c5b0 : (a0 == 0) = false := beq_eq_false_iff_ne.mpr c5
          have c5b1 : (a0 != 0) = true := bne_iff_ne.mpr c5
          obtain rfl := Option.some.inj H
          go_wp2
          go_ret
          exact ⟨by first | rfl | (simp; done) | (simp [*]; done), by repeat (first | exact Drawn0.refl _ | apply Drawn0.step)⟩

/-! ### geom_Owners: function 26 -/
def geom_Owners.f (k : Nat) (a0 : Int) : Option (Int) := (geom_Desc.f k a0).bind fun t112 => (if t112 ≥ 0 then (some (wrap64 (t112 + 1))) else (some (-1)))
theorem geom_Owners.mono : ∀ a0 k, LeO (geom_Owners.f k a0) (geom_Owners.f (k + 1) a0) := by
  intro a0 k
  unfold geom_Owners.f
  repeat' first
      | (with_reducible exact geom_Desc.mono _ _)
      | (with_reducible exact LeO.refl _)
      | (with_reducible exact LeO.none _)
      | (with_reducible refine LeO.ite ?_ ?_)
      | (with_reducible refine LeO.bind ?_ (fun _ => ?_))
      | exact geom_Desc.mono _ _
      | exact LeO.none _
      | refine LeO.ite ?_ ?_
      | refine LeO.bind ?_ (fun _ => ?_)
set_option maxHeartbeats 8000000 in
set_option maxRecDepth 100000 in
theorem geom_Owners.calls (k : Nat) (a0 : Int) (r : Int) (w : World) (h : geom_Owners.f k a0 = some r) :
    Calls Try.prog 26 #[.int .i64 a0] w fun e w' => e = .returned (.int .i64 r) ∧ Drawn0 w w' := by
  have H : ((geom_Desc.f k a0).bind fun t112 => (if t112 ≥ 0 then (some (wrap64 (t112 + 1))) else (some (-1)))) = some r := h
  clear h
  replace H := Option.bind_eq_some_iff.mp H
  obtain ⟨t112, A20, H⟩ := H
  replace H : (if t112 ≥ 0 then (some (wrap64 (t112 + 1))) else (some (-1))) = some r := H
  have A2 := Aside0.mk A20
  clear A20
  by_cases c3 : t112 ≥ 0
  · rw [if_pos c3] at H
    have c3b0 : decide (0 ≤ t112) = true := decide_eq_true c3
    clear c3
    obtain rfl := Option.some.inj H
    go_enter Try.func26, Try.ntmps26
    go_wp2_with (first | ((with_reducible refine gate_callee (f := 24) rfl ?_); refine goesL_ (some 5) rfl rfl Try.func24 (by kernel_rfl) rfl #[.int .i64 a0] rfl (by (try simp only [List.map_toArray, List.map_cons, List.map_nil]); first | done | rfl | (simp only [List.length_drop, List.length_take]; rfl)) ?_; (with_reducible refine (geom_Desc.calls k a0 t112 _ A2.out).mono ?_); rintro e w' ⟨rfl, ⟨nd, rfl⟩⟩; refine ⟨_, rfl, ?_⟩))
    go_ret
    exact ⟨by first | rfl | (simp; done) | (simp [*]; done), by repeat (first | exact Drawn0.refl _ | apply Drawn0.step)⟩
  · rw [if_neg c3] at H
    have c3b0 : decide (0 ≤ t112) = false := decide_eq_false c3
    clear c3
    obtain rfl := Option.some.inj H
    go_enter Try.func26, Try.ntmps26
    go_wp2_with (first | ((with_reducible refine gate_callee (f := 24) rfl ?_); refine goesL_ (some 5) rfl rfl Try.func24 (by kernel_rfl) rfl #[.int .i64 a0] rfl (by (try simp only [List.map_toArray, List.map_cons, List.map_nil]); first | done | rfl | (simp only [List.length_drop, List.length_take]; rfl)) ?_; (with_reducible refine (geom_Desc.calls k a0 t112 _ A2.out).mono ?_); rintro e w' ⟨rfl, ⟨nd, rfl⟩⟩; refine ⟨_, rfl, ?_⟩))
    go_ret
    exact ⟨by first | rfl | (simp; done) | (simp [*]; done), by repeat (first | exact Drawn0.refl _ | apply Drawn0.step)⟩

/-! ### ashlarref01_Owners: function 27 -/
def ashlarref01_Owners.f (k : Nat) (a0 : Int) : Option (Int) := (ashlarref01_Desc.f k a0).bind fun t113 => (if t113 < 0 then (some (-1)) else (some (wrap64 (t113 + 1))))
theorem ashlarref01_Owners.mono : ∀ a0 k, LeO (ashlarref01_Owners.f k a0) (ashlarref01_Owners.f (k + 1) a0) := by
  intro a0 k
  unfold ashlarref01_Owners.f
  repeat' first
      | (with_reducible exact ashlarref01_Desc.mono _ _)
      | (with_reducible exact LeO.refl _)
      | (with_reducible exact LeO.none _)
      | (with_reducible refine LeO.ite ?_ ?_)
      | (with_reducible refine LeO.bind ?_ (fun _ => ?_))
      | exact ashlarref01_Desc.mono _ _
      | exact LeO.none _
      | refine LeO.ite ?_ ?_
      | refine LeO.bind ?_ (fun _ => ?_)
set_option maxHeartbeats 8000000 in
set_option maxRecDepth 100000 in
theorem ashlarref01_Owners.calls (k : Nat) (a0 : Int) (r : Int) (w : World) (h : ashlarref01_Owners.f k a0 = some r) :
    Calls Try.prog 27 #[.int .i64 a0] w fun e w' => e = .returned (.int .i64 r) ∧ Drawn0 w w' := by
  have H : ((ashlarref01_Desc.f k a0).bind fun t113 => (if t113 < 0 then (some (-1)) else (some (wrap64 (t113 + 1))))) = some r := h
  clear h
  replace H := Option.bind_eq_some_iff.mp H
  obtain ⟨t113, A20, H⟩ := H
  replace H : (if t113 < 0 then (some (-1)) else (some (wrap64 (t113 + 1)))) = some r := H
  have A2 := Aside0.mk A20
  clear A20
  by_cases c3 : t113 < 0
  · rw [if_pos c3] at H
    have c3b0 : decide (t113 < 0) = true := decide_eq_true c3
    clear c3
    obtain rfl := Option.some.inj H
    go_enter Try.func27, Try.ntmps27
    go_wp2_with (first | ((with_reducible refine gate_callee (f := 25) rfl ?_); refine goesL_ (some 5) rfl rfl Try.func25 (by kernel_rfl) rfl #[.int .i64 a0] rfl (by (try simp only [List.map_toArray, List.map_cons, List.map_nil]); first | done | rfl | (simp only [List.length_drop, List.length_take]; rfl)) ?_; (with_reducible refine (ashlarref01_Desc.calls k a0 t113 _ A2.out).mono ?_); rintro e w' ⟨rfl, ⟨nd, rfl⟩⟩; refine ⟨_, rfl, ?_⟩))
    go_ret
    exact ⟨by first | rfl | (simp; done) | (simp [*]; done), by repeat (first | exact Drawn0.refl _ | apply Drawn0.step)⟩
  · rw [if_neg c3] at H
    have c3b0 : decide (t113 < 0) = false := decide_eq_false c3
    clear c3
    obtain rfl := Option.some.inj H
    go_enter Try.func27, Try.ntmps27
    go_wp2_with (first | ((with_reducible refine gate_callee (f := 25) rfl ?_); refine goesL_ (some 5) rfl rfl Try.func25 (by kernel_rfl) rfl #[.int .i64 a0] rfl (by (try simp only [List.map_toArray, List.map_cons, List.map_nil]); first | done | rfl | (simp only [List.length_drop, List.length_take]; rfl)) ?_; (with_reducible refine (ashlarref01_Desc.calls k a0 t113 _ A2.out).mono ?_); rintro e w' ⟨rfl, ⟨nd, rfl⟩⟩; refine ⟨_, rfl, ?_⟩))
    go_ret
    exact ⟨by first | rfl | (simp; done) | (simp [*]; done), by repeat (first | exact Drawn0.refl _ | apply Drawn0.step)⟩

/-! ### ashlarlaw04_GeomTells: function 3 -/
def ashlarlaw04_GeomTells.j0 : Nat → Int → Int → Bool → Option (Bool)
  | 0, _, _, _ => none
  | k + 1, x1, x2, x34 => if x34 = true then (some false) else ((geom_Group.f x1).bind fun t123 => ((ashlarref01_Group.f x1).bind fun t124 => (if t123 = t124 then ((geom_Fixed.f k x1).bind fun t125 => ((ashlarref01_Fixed.f k x1).bind fun t126 => (if (t125 == t126) = true then ((geom_Desc.f k x2).bind fun t127 => ((ashlarref01_Desc.f k x2).bind fun t128 => (if t127 = t128 then ((geom_Owners.f k x2).bind fun t129 => ((ashlarref01_Owners.f k x2).bind fun t130 => (some (t129 == t130)))) else (some false)))) else (some false)))) else (some false))))
def ashlarlaw04_GeomTells.f (k : Nat) (a0 : Int) (a1 : Int) (a2 : Int) : Option (Bool) := (ashlarlaw04_awake.f).bind fun t114 => (if t114 = true then ((geom_Formed.f a0).bind fun t115 => ((ashlarref01_Formed.f a0).bind fun t116 => (if (t115 != t116) = true then (ashlarlaw04_GeomTells.j0 k a1 a2 true) else ((geom_Groups.f a0).bind fun t117 => ((ashlarref01_Groups.f a0).bind fun t118 => (if t117 = t118 then ((geom_Open.f a0).bind fun t119 => ((ashlarref01_OpenBlocks.f k a0).bind fun t120 => (if t119 = t120 then ((geom_Room.f a0).bind fun t121 => ((ashlarref01_Room.f k a0).bind fun t122 => (ashlarlaw04_GeomTells.j0 k a1 a2 (t121 != t122)))) else (ashlarlaw04_GeomTells.j0 k a1 a2 true)))) else (ashlarlaw04_GeomTells.j0 k a1 a2 true))))))) else (some false))
theorem ashlarlaw04_GeomTells.mono_l : ∀ k, (∀ y0 y1 y2, LeO (ashlarlaw04_GeomTells.j0 k y0 y1 y2) (ashlarlaw04_GeomTells.j0 (k + 1) y0 y1 y2))
  | 0 => fun _ _ _ r h => by simp [ashlarlaw04_GeomTells.j0] at h
  | k + 1 => by
    have ih0 := ashlarlaw04_GeomTells.mono_l k
    · intro y0 y1 y2
      unfold ashlarlaw04_GeomTells.j0
      repeat' first
      | (with_reducible exact ih0 _ _ _)
      | (with_reducible exact ashlarref01_Desc.mono _ _)
      | (with_reducible exact ashlarref01_Fixed.mono _ _)
      | (with_reducible exact ashlarref01_OpenBlocks.mono _ _)
      | (with_reducible exact ashlarref01_Owners.mono _ _)
      | (with_reducible exact ashlarref01_Room.mono _ _)
      | (with_reducible exact geom_Desc.mono _ _)
      | (with_reducible exact geom_Fixed.mono _ _)
      | (with_reducible exact geom_Owners.mono _ _)
      | (with_reducible exact LeO.refl _)
      | (with_reducible exact LeO.none _)
      | (with_reducible refine LeO.ite ?_ ?_)
      | (with_reducible refine LeO.bind ?_ (fun _ => ?_))
      | exact ih0 _ _ _
      | exact ashlarref01_Desc.mono _ _
      | exact ashlarref01_Fixed.mono _ _
      | exact ashlarref01_OpenBlocks.mono _ _
      | exact ashlarref01_Owners.mono _ _
      | exact ashlarref01_Room.mono _ _
      | exact geom_Desc.mono _ _
      | exact geom_Fixed.mono _ _
      | exact geom_Owners.mono _ _
      | exact LeO.none _
      | refine LeO.ite ?_ ?_
      | refine LeO.bind ?_ (fun _ => ?_)
theorem ashlarlaw04_GeomTells.mono : ∀ a0 a1 a2 k, LeO (ashlarlaw04_GeomTells.f k a0 a1 a2) (ashlarlaw04_GeomTells.f (k + 1) a0 a1 a2) := by
  intro a0 a1 a2 k
  have ih0 := ashlarlaw04_GeomTells.mono_l k
  unfold ashlarlaw04_GeomTells.f
  repeat' first
      | (with_reducible exact ih0 _ _ _)
      | (with_reducible exact ashlarref01_Desc.mono _ _)
      | (with_reducible exact ashlarref01_Fixed.mono _ _)
      | (with_reducible exact ashlarref01_OpenBlocks.mono _ _)
      | (with_reducible exact ashlarref01_Owners.mono _ _)
      | (with_reducible exact ashlarref01_Room.mono _ _)
      | (with_reducible exact geom_Desc.mono _ _)
      | (with_reducible exact geom_Fixed.mono _ _)
      | (with_reducible exact geom_Owners.mono _ _)
      | (with_reducible exact LeO.refl _)
      | (with_reducible exact LeO.none _)
      | (with_reducible refine LeO.ite ?_ ?_)
      | (with_reducible refine LeO.bind ?_ (fun _ => ?_))
      | exact ih0 _ _ _
      | exact ashlarref01_Desc.mono _ _
      | exact ashlarref01_Fixed.mono _ _
      | exact ashlarref01_OpenBlocks.mono _ _
      | exact ashlarref01_Owners.mono _ _
      | exact ashlarref01_Room.mono _ _
      | exact geom_Desc.mono _ _
      | exact geom_Fixed.mono _ _
      | exact geom_Owners.mono _ _
      | exact LeO.none _
      | refine LeO.ite ?_ ?_
      | refine LeO.bind ?_ (fun _ => ?_)
set_option maxHeartbeats 8000000 in
set_option maxRecDepth 100000 in
theorem ashlarlaw04_GeomTells.calls (k : Nat) (a0 : Int) (a1 : Int) (a2 : Int) (r : Bool) (w : World) (h : ashlarlaw04_GeomTells.f k a0 a1 a2 = some r) :
    Calls Try.prog 3 #[.int .i64 a0, .int .i64 a1, .int .i64 a2] w fun e w' => e = .returned (.bool r) ∧ Below w.heap.size w w' := by
  have HB := Aside0.mk (Below.refl w.heap.size w)
  have H : ((ashlarlaw04_awake.f).bind fun t114 => (if t114 = true then ((geom_Formed.f a0).bind fun t115 => ((ashlarref01_Formed.f a0).bind fun t116 => (if (t115 != t116) = true then (ashlarlaw04_GeomTells.j0 k a1 a2 true) else ((geom_Groups.f a0).bind fun t117 => ((ashlarref01_Groups.f a0).bind fun t118 => (if t117 = t118 then ((geom_Open.f a0).bind fun t119 => ((ashlarref01_OpenBlocks.f k a0).bind fun t120 => (if t119 = t120 then ((geom_Room.f a0).bind fun t121 => ((ashlarref01_Room.f k a0).bind fun t122 => (ashlarlaw04_GeomTells.j0 k a1 a2 (t121 != t122)))) else (ashlarlaw04_GeomTells.j0 k a1 a2 true)))) else (ashlarlaw04_GeomTells.j0 k a1 a2 true))))))) else (some false))) = some r := h
  clear h
  replace H := Option.bind_eq_some_iff.mp H
  obtain ⟨t114, A40, H⟩ := H
  replace H : (if t114 = true then ((geom_Formed.f a0).bind fun t115 => ((ashlarref01_Formed.f a0).bind fun t116 => (if (t115 != t116) = true then (ashlarlaw04_GeomTells.j0 k a1 a2 true) else ((geom_Groups.f a0).bind fun t117 => ((ashlarref01_Groups.f a0).bind fun t118 => (if t117 = t118 then ((geom_Open.f a0).bind fun t119 => ((ashlarref01_OpenBlocks.f k a0).bind fun t120 => (if t119 = t120 then ((geom_Room.f a0).bind fun t121 => ((ashlarref01_Room.f k a0).bind fun t122 => (ashlarlaw04_GeomTells.j0 k a1 a2 (t121 != t122)))) else (ashlarlaw04_GeomTells.j0 k a1 a2 true)))) else (ashlarlaw04_GeomTells.j0 k a1 a2 true))))))) else (some false)) = some r := H
  have A4 := Aside0.mk A40
  clear A40
  by_cases c5 : t114 = true
  · subst c5
    have H1 : ((geom_Formed.f a0).bind fun t115 => ((ashlarref01_Formed.f a0).bind fun t116 => (if (t115 != t116) = true then (ashlarlaw04_GeomTells.j0 k a1 a2 true) else ((geom_Groups.f a0).bind fun t117 => ((ashlarref01_Groups.f a0).bind fun t118 => (if t117 = t118 then ((geom_Open.f a0).bind fun t119 => ((ashlarref01_OpenBlocks.f k a0).bind fun t120 => (if t119 = t120 then ((geom_Room.f a0).bind fun t121 => ((ashlarref01_Room.f k a0).bind fun t122 => (ashlarlaw04_GeomTells.j0 k a1 a2 (t121 != t122)))) else (ashlarlaw04_GeomTells.j0 k a1 a2 true)))) else (ashlarlaw04_GeomTells.j0 k a1 a2 true))))))) = some r := by rw [if_pos rfl] at H; exact H
    clear H
    have H := H1
    clear H1
    have HC6 := Aside0.mk H
    clear H
    go_enter Try.func3, Try.ntmps3
    go_upto_region 3 with (first | ((with_reducible refine gate_callee (f := 11) rfl ?_); refine goesL_ (some 7) rfl rfl Try.func11 (by kernel_rfl) rfl #[] rfl (by (try simp only [List.map_toArray, List.map_cons, List.map_nil]); first | done | rfl | (simp only [List.length_drop, List.length_take]; rfl)) ?_; (with_reducible refine (ashlarlaw04_awake.calls  true _ A4.out).mono ?_); rintro e w' ⟨rfl, ⟨nd, rfl⟩⟩; refine ⟨_, rfl, ?_⟩))
    (try simp only [Act.put, List.setIfInBounds_toArray, List.set_cons_zero, List.set_cons_succ])
    go_cut [34] (fun v34 wc => ∃ (kq : Nat) (x34_5 : Bool), v34 = .bool x34_5 ∧ Aside0 (ashlarlaw04_GeomTells.j0 kq a1 a2 x34_5 = some r) ∧ Aside0 (kq ≤ k) ∧ Aside0 (Below w.heap.size w wc))
    case first =>
      have H := HC6.out
      clear HC6
      replace H := Option.bind_eq_some_iff.mp H
      obtain ⟨t115, A70, H⟩ := H
      replace H : ((ashlarref01_Formed.f a0).bind fun t116 => (if (t115 != t116) = true then (ashlarlaw04_GeomTells.j0 k a1 a2 true) else ((geom_Groups.f a0).bind fun t117 => ((ashlarref01_Groups.f a0).bind fun t118 => (if t117 = t118 then ((geom_Open.f a0).bind fun t119 => ((ashlarref01_OpenBlocks.f k a0).bind fun t120 => (if t119 = t120 then ((geom_Room.f a0).bind fun t121 => ((ashlarref01_Room.f k a0).bind fun t122 => (ashlarlaw04_GeomTells.j0 k a1 a2 (t121 != t122)))) else (ashlarlaw04_GeomTells.j0 k a1 a2 true)))) else (ashlarlaw04_GeomTells.j0 k a1 a2 true)))))) = some r := H
      have A7 := Aside0.mk A70
      clear A70
      replace H := Option.bind_eq_some_iff.mp H
      obtain ⟨t116, A80, H⟩ := H
      replace H : (if (t115 != t116) = true then (ashlarlaw04_GeomTells.j0 k a1 a2 true) else ((geom_Groups.f a0).bind fun t117 => ((ashlarref01_Groups.f a0).bind fun t118 => (if t117 = t118 then ((geom_Open.f a0).bind fun t119 => ((ashlarref01_OpenBlocks.f k a0).bind fun t120 => (if t119 = t120 then ((geom_Room.f a0).bind fun t121 => ((ashlarref01_Room.f k a0).bind fun t122 => (ashlarlaw04_GeomTells.j0 k a1 a2 (t121 != t122)))) else (ashlarlaw04_GeomTells.j0 k a1 a2 true)))) else (ashlarlaw04_GeomTells.j0 k a1 a2 true))))) = some r := H
      have A8 := Aside0.mk A80
      clear A80
      by_cases c9 : (t115 != t116) = true
      · rw [if_pos c9] at H
        have c9b0 : (t115 != t116) = true := c9
        (try (have c9b1 : decide (t115 = t116) = false := by simpa using c9))
        (try (have c9b2 : (t115 == t116) = false := by simpa using c9))
        (try (have c9b3 : ¬ (t115 = t116) := by simpa using c9))
        clear c9
        (first | rw [c9b0] | (simp only [i64_w, i32_w]; rw [c9b0]) | skip)
        have H' := Aside0.mk H
        clear H
        go_wp2_with (first | ((with_reducible refine gate_callee (f := 12) rfl ?_); refine goesL_ (some 10) rfl rfl Try.func12 (by kernel_rfl) rfl #[.int .i64 a0] rfl (by (try simp only [List.map_toArray, List.map_cons, List.map_nil]); first | done | rfl | (simp only [List.length_drop, List.length_take]; rfl)) ?_; (with_reducible refine (geom_Formed.calls a0 t115 _ A7.out).mono ?_); rintro e w' ⟨rfl, ⟨nd, rfl⟩⟩; refine ⟨_, rfl, ?_⟩) | ((with_reducible refine gate_callee (f := 13) rfl ?_); refine goesL_ (some 12) rfl rfl Try.func13 (by kernel_rfl) rfl #[.int .i64 a0] rfl (by (try simp only [List.map_toArray, List.map_cons, List.map_nil]); first | done | rfl | (simp only [List.length_drop, List.length_take]; rfl)) ?_; (with_reducible refine (ashlarref01_Formed.calls a0 t116 _ A8.out).mono ?_); rintro e w' ⟨rfl, ⟨nd, rfl⟩⟩; refine ⟨_, rfl, ?_⟩))
        go_meet
        case rel => exact ⟨_, (true), (by first | rfl | (simp; done) | (simp [*]; done)), H', ⟨by first | omega | exact Nat.le_refl _⟩, ⟨by repeat (first | (with_reducible first | exact HB.out | apply below_alloc | apply pw_below_drewN | apply below_drew1) | exact HB.out)⟩⟩
      · rw [if_neg c9] at H
        have c9b0 : (t115 != t116) = false := by simpa using c9
        (try (have c9b1 : decide (t115 = t116) = true := by simpa using c9))
        (try (have c9b2 : (t115 == t116) = true := by simpa using c9))
        clear c9
        (first | rw [c9b0] | (simp only [i64_w, i32_w]; rw [c9b0]) | skip)
        replace H := Option.bind_eq_some_iff.mp H
        obtain ⟨t117, A100, H⟩ := H
        replace H : ((ashlarref01_Groups.f a0).bind fun t118 => (if t117 = t118 then ((geom_Open.f a0).bind fun t119 => ((ashlarref01_OpenBlocks.f k a0).bind fun t120 => (if t119 = t120 then ((geom_Room.f a0).bind fun t121 => ((ashlarref01_Room.f k a0).bind fun t122 => (ashlarlaw04_GeomTells.j0 k a1 a2 (t121 != t122)))) else (ashlarlaw04_GeomTells.j0 k a1 a2 true)))) else (ashlarlaw04_GeomTells.j0 k a1 a2 true))) = some r := H
        have A10 := Aside0.mk A100
        clear A100
        replace H := Option.bind_eq_some_iff.mp H
        obtain ⟨t118, A110, H⟩ := H
        replace H : (if t117 = t118 then ((geom_Open.f a0).bind fun t119 => ((ashlarref01_OpenBlocks.f k a0).bind fun t120 => (if t119 = t120 then ((geom_Room.f a0).bind fun t121 => ((ashlarref01_Room.f k a0).bind fun t122 => (ashlarlaw04_GeomTells.j0 k a1 a2 (t121 != t122)))) else (ashlarlaw04_GeomTells.j0 k a1 a2 true)))) else (ashlarlaw04_GeomTells.j0 k a1 a2 true)) = some r := H
        have A11 := Aside0.mk A110
        clear A110
        by_cases c12 : t117 = t118
        · rw [if_pos c12] at H
          have c12b0 : (t117 == t118) = true := beq_iff_eq.mpr c12
          have c12b1 : (t117 != t118) = false := bne_eq_false_iff_eq.mpr c12
          clear c12
          replace H := Option.bind_eq_some_iff.mp H
          obtain ⟨t119, A130, H⟩ := H
          replace H : ((ashlarref01_OpenBlocks.f k a0).bind fun t120 => (if t119 = t120 then ((geom_Room.f a0).bind fun t121 => ((ashlarref01_Room.f k a0).bind fun t122 => (ashlarlaw04_GeomTells.j0 k a1 a2 (t121 != t122)))) else (ashlarlaw04_GeomTells.j0 k a1 a2 true))) = some r := H
          have A13 := Aside0.mk A130
          clear A130
          replace H := Option.bind_eq_some_iff.mp H
          obtain ⟨t120, A140, H⟩ := H
          replace H : (if t119 = t120 then ((geom_Room.f a0).bind fun t121 => ((ashlarref01_Room.f k a0).bind fun t122 => (ashlarlaw04_GeomTells.j0 k a1 a2 (t121 != t122)))) else (ashlarlaw04_GeomTells.j0 k a1 a2 true)) = some r := H
          have A14 := Aside0.mk A140
          clear A140
          by_cases c15 : t119 = t120
          · rw [if_pos c15] at H
            have c15b0 : (t119 == t120) = true := beq_iff_eq.mpr c15
            have c15b1 : (t119 != t120) = false := bne_eq_false_iff_eq.mpr c15
            clear c15
            replace H := Option.bind_eq_some_iff.mp H
            obtain ⟨t121, A160, H⟩ := H
            replace H : ((ashlarref01_Room.f k a0).bind fun t122 => (ashlarlaw04_GeomTells.j0 k a1 a2 (t121 != t122))) = some r := H
            have A16 := Aside0.mk A160
            clear A160
            replace H := Option.bind_eq_some_iff.mp H
            obtain ⟨t122, A170, H⟩ := H
            replace H : (ashlarlaw04_GeomTells.j0 k a1 a2 (t121 != t122)) = some r := H
            have A17 := Aside0.mk A170
            clear A170
            have H' := Aside0.mk H
            clear H
            go_wp2_with (first | ((with_reducible refine gate_callee (f := 12) rfl ?_); refine goesL_ (some 10) rfl rfl Try.func12 (by kernel_rfl) rfl #[.int .i64 a0] rfl (by (try simp only [List.map_toArray, List.map_cons, List.map_nil]); first | done | rfl | (simp only [List.length_drop, List.length_take]; rfl)) ?_; (with_reducible refine (geom_Formed.calls a0 t115 _ A7.out).mono ?_); rintro e w' ⟨rfl, ⟨nd, rfl⟩⟩; refine ⟨_, rfl, ?_⟩) | ((with_reducible refine gate_callee (f := 13) rfl ?_); refine goesL_ (some 12) rfl rfl Try.func13 (by kernel_rfl) rfl #[.int .i64 a0] rfl (by (try simp only [List.map_toArray, List.map_cons, List.map_nil]); first | done | rfl | (simp only [List.length_drop, List.length_take]; rfl)) ?_; (with_reducible refine (ashlarref01_Formed.calls a0 t116 _ A8.out).mono ?_); rintro e w' ⟨rfl, ⟨nd, rfl⟩⟩; refine ⟨_, rfl, ?_⟩) | (go_at_call 14; (with_reducible refine (geom_Groups.calls a0 t117 _ A10.out).mono ?_); rintro e w' ⟨rfl, ⟨nd, rfl⟩⟩) | (go_at_call 15; (with_reducible refine (ashlarref01_Groups.calls a0 t118 _ A11.out).mono ?_); rintro e w' ⟨rfl, ⟨nd, rfl⟩⟩) | (go_at_call 16; (with_reducible refine (geom_Open.calls a0 t119 _ A13.out).mono ?_); rintro e w' ⟨rfl, ⟨nd, rfl⟩⟩) | (go_at_call 17; (with_reducible refine (ashlarref01_OpenBlocks.calls k a0 t120 _ A14.out).mono ?_); rintro e w' ⟨rfl, ⟨nd, rfl⟩⟩) | (go_at_call 18; (with_reducible refine (geom_Room.calls a0 t121 _ A16.out).mono ?_); rintro e w18 ⟨rfl, hb⟩; have n0_ := Aside0.mk (below_step (by repeat (first | (with_reducible first | exact HB.out | apply below_alloc | apply pw_below_drewN | apply below_drew1) | exact HB.out)) hb); clear HB; have HB := n0_; clear n0_; (try clear hb); (try clear hb2); (try clear hk); (try clear hi)) | (go_at_call 19; (with_reducible refine (ashlarref01_Room.calls k a0 t122 _ A17.out).mono ?_); rintro e w19 ⟨rfl, hb⟩; have n0_ := Aside0.mk (below_step (by repeat (first | (with_reducible first | exact HB.out | apply below_alloc | apply pw_below_drewN | apply below_drew1) | exact HB.out)) hb); clear HB; have HB := n0_; clear n0_; (try clear hb); (try clear hb2); (try clear hk); (try clear hi)))
            go_meet
            case rel => exact ⟨_, ((t121 != t122)), (by first | rfl | (simp; done) | (simp [*]; done)), H', ⟨by first | omega | exact Nat.le_refl _⟩, ⟨by repeat (first | (with_reducible first | exact HB.out | apply below_alloc | apply pw_below_drewN | apply below_drew1) | exact HB.out)⟩⟩
          · rw [if_neg c15] at H
            have c15b0 : (t119 == t120) = false := beq_eq_false_iff_ne.mpr c15
            have c15b1 : (t119 != t120) = true := bne_iff_ne.mpr c15
            have H' := Aside0.mk H
            clear H
            go_wp2_with (first | ((with_reducible refine gate_callee (f := 12) rfl ?_); refine goesL_ (some 10) rfl rfl Try.func12 (by kernel_rfl) rfl #[.int .i64 a0] rfl (by (try simp only [List.map_toArray, List.map_cons, List.map_nil]); first | done | rfl | (simp only [List.length_drop, List.length_take]; rfl)) ?_; (with_reducible refine (geom_Formed.calls a0 t115 _ A7.out).mono ?_); rintro e w' ⟨rfl, ⟨nd, rfl⟩⟩; refine ⟨_, rfl, ?_⟩) | ((with_reducible refine gate_callee (f := 13) rfl ?_); refine goesL_ (some 12) rfl rfl Try.func13 (by kernel_rfl) rfl #[.int .i64 a0] rfl (by (try simp only [List.map_toArray, List.map_cons, List.map_nil]); first | done | rfl | (simp only [List.length_drop, List.length_take]; rfl)) ?_; (with_reducible refine (ashlarref01_Formed.calls a0 t116 _ A8.out).mono ?_); rintro e w' ⟨rfl, ⟨nd, rfl⟩⟩; refine ⟨_, rfl, ?_⟩) | (go_at_call 14; (with_reducible refine (geom_Groups.calls a0 t117 _ A10.out).mono ?_); rintro e w' ⟨rfl, ⟨nd, rfl⟩⟩) | (go_at_call 15; (with_reducible refine (ashlarref01_Groups.calls a0 t118 _ A11.out).mono ?_); rintro e w' ⟨rfl, ⟨nd, rfl⟩⟩) | (go_at_call 16; (with_reducible refine (geom_Open.calls a0 t119 _ A13.out).mono ?_); rintro e w' ⟨rfl, ⟨nd, rfl⟩⟩) | (go_at_call 17; (with_reducible refine (ashlarref01_OpenBlocks.calls k a0 t120 _ A14.out).mono ?_); rintro e w' ⟨rfl, ⟨nd, rfl⟩⟩))
            go_meet
            case rel => exact ⟨_, (true), (by first | rfl | (simp; done) | (simp [*]; done)), H', ⟨by first | omega | exact Nat.le_refl _⟩, ⟨by repeat (first | (with_reducible first | exact HB.out | apply below_alloc | apply pw_below_drewN | apply below_drew1) | exact HB.out)⟩⟩
        · rw [if_neg c12] at H
          have c12b0 : (t117 == t118) = false := beq_eq_false_iff_ne.mpr c12
          have c12b1 : (t117 != t118) = true := bne_iff_ne.mpr c12
          have H' := Aside0.mk H
          clear H
          go_wp2_with (first | ((with_reducible refine gate_callee (f := 12) rfl ?_); refine goesL_ (some 10) rfl rfl Try.func12 (by kernel_rfl) rfl #[.int .i64 a0] rfl (by (try simp only [List.map_toArray, List.map_cons, List.map_nil]); first | done | rfl | (simp only [List.length_drop, List.length_take]; rfl)) ?_; (with_reducible refine (geom_Formed.calls a0 t115 _ A7.out).mono ?_); rintro e w' ⟨rfl, ⟨nd, rfl⟩⟩; refine ⟨_, rfl, ?_⟩) | ((with_reducible refine gate_callee (f := 13) rfl ?_); refine goesL_ (some 12) rfl rfl Try.func13 (by kernel_rfl) rfl #[.int .i64 a0] rfl (by (try simp only [List.map_toArray, List.map_cons, List.map_nil]); first | done | rfl | (simp only [List.length_drop, List.length_take]; rfl)) ?_; (with_reducible refine (ashlarref01_Formed.calls a0 t116 _ A8.out).mono ?_); rintro e w' ⟨rfl, ⟨nd, rfl⟩⟩; refine ⟨_, rfl, ?_⟩) | (go_at_call 14; (with_reducible refine (geom_Groups.calls a0 t117 _ A10.out).mono ?_); rintro e w' ⟨rfl, ⟨nd, rfl⟩⟩) | (go_at_call 15; (with_reducible refine (ashlarref01_Groups.calls a0 t118 _ A11.out).mono ?_); rintro e w' ⟨rfl, ⟨nd, rfl⟩⟩))
          go_meet
          case rel => exact ⟨_, (true), (by first | rfl | (simp; done) | (simp [*]; done)), H', ⟨by first | omega | exact Nat.le_refl _⟩, ⟨by repeat (first | (with_reducible first | exact HB.out | apply below_alloc | apply pw_below_drewN | apply below_drew1) | exact HB.out)⟩⟩
    case rest =>
      clear HC6
      try clear c1
      try clear p2
      try clear c3
      try clear c5
      try clear c9
      try clear c9b0
      try clear c9b1
      try clear c9b2
      try clear c11
      try clear c12
      try clear c12b0
      try clear c12b1
      try clear c13
      try clear c15
      try clear c15b0
      try clear c15b1
      obtain ⟨kq, x34_5, rfl, HA, HJ5, HB⟩ := hcut
      cases kq with
      | zero => exact absurd HA.out (by simp [ashlarlaw04_GeomTells.j0])
      | succ kj5 =>
        have H := HA.out
        clear HA
        simp only [ashlarlaw04_GeomTells.j0] at H
        by_cases c20 : x34_5 = true
        · subst c20
          have H1 : (some false) = some r := by rw [if_pos rfl] at H; exact H
          clear H
          have H := H1
          clear H1
          obtain rfl := Option.some.inj H
          go_wp2
          go_ret
          exact ⟨by first | rfl | (simp [errW_none, errW_some] <;> rfl) | (simp [*, errW_none, errW_some] <;> rfl), by repeat (first | (with_reducible first | exact HB.out | apply below_alloc | apply pw_below_drewN | apply below_drew1) | exact HB.out)⟩
        · replace c20 := Bool.eq_false_iff.mpr c20
          subst c20
          have H1 : ((geom_Group.f a1).bind fun t123 => ((ashlarref01_Group.f a1).bind fun t124 => (if t123 = t124 then ((geom_Fixed.f kj5 a1).bind fun t125 => ((ashlarref01_Fixed.f kj5 a1).bind fun t126 => (if (t125 == t126) = true then ((geom_Desc.f kj5 a2).bind fun t127 => ((ashlarref01_Desc.f kj5 a2).bind fun t128 => (if t127 = t128 then ((geom_Owners.f kj5 a2).bind fun t129 => ((ashlarref01_Owners.f kj5 a2).bind fun t130 => (some (t129 == t130)))) else (some false)))) else (some false)))) else (some false)))) = some r := by rw [if_neg (show ¬ (false = true) by decide)] at H; exact H
          clear H
          have H := H1
          clear H1
          replace H := Option.bind_eq_some_iff.mp H
          obtain ⟨t123, A210, H⟩ := H
          replace H : ((ashlarref01_Group.f a1).bind fun t124 => (if t123 = t124 then ((geom_Fixed.f kj5 a1).bind fun t125 => ((ashlarref01_Fixed.f kj5 a1).bind fun t126 => (if (t125 == t126) = true then ((geom_Desc.f kj5 a2).bind fun t127 => ((ashlarref01_Desc.f kj5 a2).bind fun t128 => (if t127 = t128 then ((geom_Owners.f kj5 a2).bind fun t129 => ((ashlarref01_Owners.f kj5 a2).bind fun t130 => (some (t129 == t130)))) else (some false)))) else (some false)))) else (some false))) = some r := H
          have A21 := Aside0.mk A210
          clear A210
          replace H := Option.bind_eq_some_iff.mp H
          obtain ⟨t124, A220, H⟩ := H
          replace H : (if t123 = t124 then ((geom_Fixed.f kj5 a1).bind fun t125 => ((ashlarref01_Fixed.f kj5 a1).bind fun t126 => (if (t125 == t126) = true then ((geom_Desc.f kj5 a2).bind fun t127 => ((ashlarref01_Desc.f kj5 a2).bind fun t128 => (if t127 = t128 then ((geom_Owners.f kj5 a2).bind fun t129 => ((ashlarref01_Owners.f kj5 a2).bind fun t130 => (some (t129 == t130)))) else (some false)))) else (some false)))) else (some false)) = some r := H
          have A22 := Aside0.mk A220
          clear A220
          by_cases c23 : t123 = t124
          · rw [if_pos c23] at H
            have c23b0 : (t123 == t124) = true := beq_iff_eq.mpr c23
            have c23b1 : (t123 != t124) = false := bne_eq_false_iff_eq.mpr c23
            clear c23
            replace H := Option.bind_eq_some_iff.mp H
            obtain ⟨t125, A240, H⟩ := H
            replace H : ((ashlarref01_Fixed.f kj5 a1).bind fun t126 => (if (t125 == t126) = true then ((geom_Desc.f kj5 a2).bind fun t127 => ((ashlarref01_Desc.f kj5 a2).bind fun t128 => (if t127 = t128 then ((geom_Owners.f kj5 a2).bind fun t129 => ((ashlarref01_Owners.f kj5 a2).bind fun t130 => (some (t129 == t130)))) else (some false)))) else (some false))) = some r := H
            have A24 := Aside0.mk A240
            clear A240
            replace H := Option.bind_eq_some_iff.mp H
            obtain ⟨t126, A250, H⟩ := H
            replace H : (if (t125 == t126) = true then ((geom_Desc.f kj5 a2).bind fun t127 => ((ashlarref01_Desc.f kj5 a2).bind fun t128 => (if t127 = t128 then ((geom_Owners.f kj5 a2).bind fun t129 => ((ashlarref01_Owners.f kj5 a2).bind fun t130 => (some (t129 == t130)))) else (some false)))) else (some false)) = some r := H
            have A25 := Aside0.mk A250
            clear A250
            by_cases c26 : (t125 == t126) = true
            · rw [if_pos c26] at H
              have c26b0 : (t125 == t126) = true := c26
              (try (have c26b1 : decide (t125 = t126) = true := by simpa using c26))
              (try (have c26b2 : (t125 == t126) = true := by simpa using c26))
              clear c26
              replace H := Option.bind_eq_some_iff.mp H
              obtain ⟨t127, A270, H⟩ := H
              replace H : ((ashlarref01_Desc.f kj5 a2).bind fun t128 => (if t127 = t128 then ((geom_Owners.f kj5 a2).bind fun t129 => ((ashlarref01_Owners.f kj5 a2).bind fun t130 => (some (t129 == t130)))) else (some false))) = some r := H
              have A27 := Aside0.mk A270
              clear A270
              replace H := Option.bind_eq_some_iff.mp H
              obtain ⟨t128, A280, H⟩ := H
              replace H : (if t127 = t128 then ((geom_Owners.f kj5 a2).bind fun t129 => ((ashlarref01_Owners.f kj5 a2).bind fun t130 => (some (t129 == t130)))) else (some false)) = some r := H
              have A28 := Aside0.mk A280
              clear A280
              by_cases c29 : t127 = t128
              · rw [if_pos c29] at H
                have c29b0 : (t127 == t128) = true := beq_iff_eq.mpr c29
                have c29b1 : (t127 != t128) = false := bne_eq_false_iff_eq.mpr c29
                clear c29
                replace H := Option.bind_eq_some_iff.mp H
                obtain ⟨t129, A300, H⟩ := H
                replace H : ((ashlarref01_Owners.f kj5 a2).bind fun t130 => (some (t129 == t130))) = some r := H
                have A30 := Aside0.mk A300
                clear A300
                replace H := Option.bind_eq_some_iff.mp H
                obtain ⟨t130, A310, H⟩ := H
                replace H : (some (t129 == t130)) = some r := H
                have A31 := Aside0.mk A310
                clear A310
                obtain rfl := Option.some.inj H
                go_wp2_with (first | ((with_reducible refine gate_callee (f := 20) rfl ?_); refine goesL_ (some 36) rfl rfl Try.func20 (by kernel_rfl) rfl #[.int .i64 a1] rfl (by (try simp only [List.map_toArray, List.map_cons, List.map_nil]); first | done | rfl | (simp only [List.length_drop, List.length_take]; rfl)) ?_; (with_reducible refine (geom_Group.calls a1 t123 _ A21.out).mono ?_); rintro e w' ⟨rfl, ⟨nd, rfl⟩⟩; refine ⟨_, rfl, ?_⟩) | ((with_reducible refine gate_callee (f := 21) rfl ?_); refine goesL_ (some 38) rfl rfl Try.func21 (by kernel_rfl) rfl #[.int .i64 a1] rfl (by (try simp only [List.map_toArray, List.map_cons, List.map_nil]); first | done | rfl | (simp only [List.length_drop, List.length_take]; rfl)) ?_; (with_reducible refine (ashlarref01_Group.calls a1 t124 _ A22.out).mono ?_); rintro e w' ⟨rfl, ⟨nd, rfl⟩⟩; refine ⟨_, rfl, ?_⟩) | (go_at_call 22; (with_reducible refine (geom_Fixed.calls kj5 a1 t125 _ A24.out).mono ?_); rintro e w' ⟨rfl, ⟨nd, rfl⟩⟩) | (go_at_call 23; (with_reducible refine (ashlarref01_Fixed.calls kj5 a1 t126 _ A25.out).mono ?_); rintro e w' ⟨rfl, ⟨nd, rfl⟩⟩) | (go_at_call 24; (with_reducible refine (geom_Desc.calls kj5 a2 t127 _ A27.out).mono ?_); rintro e w' ⟨rfl, ⟨nd, rfl⟩⟩) | (go_at_call 25; (with_reducible refine (ashlarref01_Desc.calls kj5 a2 t128 _ A28.out).mono ?_); rintro e w' ⟨rfl, ⟨nd, rfl⟩⟩) | (go_at_call 26; (with_reducible refine (geom_Owners.calls kj5 a2 t129 _ A30.out).mono ?_); rintro e w' ⟨rfl, ⟨nd, rfl⟩⟩) | (go_at_call 27; (with_reducible refine (ashlarref01_Owners.calls kj5 a2 t130 _ A31.out).mono ?_); rintro e w' ⟨rfl, ⟨nd, rfl⟩⟩))
                go_ret
                exact ⟨by first | rfl | (simp [errW_none, errW_some] <;> rfl) | (simp [*, errW_none, errW_some] <;> rfl), by repeat (first | (with_reducible first | exact HB.out | apply below_alloc | apply pw_below_drewN | apply below_drew1) | exact HB.out)⟩
              · rw [if_neg c29] at H
                have c29b0 : (t127 == t128) = false := beq_eq_false_iff_ne.mpr c29
                have c29b1 : (t127 != t128) = true := bne_iff_ne.mpr c29
                obtain rfl := Option.some.inj H
                go_wp2_with (first | ((with_reducible refine gate_callee (f := 20) rfl ?_); refine goesL_ (some 36) rfl rfl Try.func20 (by kernel_rfl) rfl #[.int .i64 a1] rfl (by (try simp only [List.map_toArray, List.map_cons, List.map_nil]); first | done | rfl | (simp only [List.length_drop, List.length_take]; rfl)) ?_; (with_reducible refine (geom_Group.calls a1 t123 _ A21.out).mono ?_); rintro e w' ⟨rfl, ⟨nd, rfl⟩⟩; refine ⟨_, rfl, ?_⟩) | ((with_reducible refine gate_callee (f := 21) rfl ?_); refine goesL_ (some 38) rfl rfl Try.func21 (by kernel_rfl) rfl #[.int .i64 a1] rfl (by (try simp only [List.map_toArray, List.map_cons, List.map_nil]); first | done | rfl | (simp only [List.length_drop, List.length_take]; rfl)) ?_; (with_reducible refine (ashlarref01_Group.calls a1 t124 _ A22.out).mono ?_); rintro e w' ⟨rfl, ⟨nd, rfl⟩⟩; refine ⟨_, rfl, ?_⟩) | (go_at_call 22; (with_reducible refine (geom_Fixed.calls kj5 a1 t125 _ A24.out).mono ?_); rintro e w' ⟨rfl, ⟨nd, rfl⟩⟩) | (go_at_call 23; (with_reducible refine (ashlarref01_Fixed.calls kj5 a1 t126 _ A25.out).mono ?_); rintro e w' ⟨rfl, ⟨nd, rfl⟩⟩) | (go_at_call 24; (with_reducible refine (geom_Desc.calls kj5 a2 t127 _ A27.out).mono ?_); rintro e w' ⟨rfl, ⟨nd, rfl⟩⟩) | (go_at_call 25; (with_reducible refine (ashlarref01_Desc.calls kj5 a2 t128 _ A28.out).mono ?_); rintro e w' ⟨rfl, ⟨nd, rfl⟩⟩))
                go_ret
                exact ⟨by first | rfl | (simp [errW_none, errW_some] <;> rfl) | (simp [*, errW_none, errW_some] <;> rfl), by repeat (first | (with_reducible first | exact HB.out | apply below_alloc | apply pw_below_drewN | apply below_drew1) | exact HB.out)⟩
            · rw [if_neg c26] at H
              have c26b0 : (t125 == t126) = false := by simpa using c26
              (try (have c26b1 : decide (t125 = t126) = false := by simpa using c26))
              (try (have c26b2 : (t125 == t126) = false := by simpa using c26))
              (try (have c26b3 : ¬ (t125 = t126) := by simpa using c26))
              clear c26
              obtain rfl := Option.some.inj H
              go_wp2_with (first | ((with_reducible refine gate_callee (f := 20) rfl ?_); refine goesL_ (some 36) rfl rfl Try.func20 (by kernel_rfl) rfl #[.int .i64 a1] rfl (by (try simp only [List.map_toArray, List.map_cons, List.map_nil]); first | done | rfl | (simp only [List.length_drop, List.length_take]; rfl)) ?_; (with_reducible refine (geom_Group.calls a1 t123 _ A21.out).mono ?_); rintro e w' ⟨rfl, ⟨nd, rfl⟩⟩; refine ⟨_, rfl, ?_⟩) | ((with_reducible refine gate_callee (f := 21) rfl ?_); refine goesL_ (some 38) rfl rfl Try.func21 (by kernel_rfl) rfl #[.int .i64 a1] rfl (by (try simp only [List.map_toArray, List.map_cons, List.map_nil]); first | done | rfl | (simp only [List.length_drop, List.length_take]; rfl)) ?_; (with_reducible refine (ashlarref01_Group.calls a1 t124 _ A22.out).mono ?_); rintro e w' ⟨rfl, ⟨nd, rfl⟩⟩; refine ⟨_, rfl, ?_⟩) | (go_at_call 22; (with_reducible refine (geom_Fixed.calls kj5 a1 t125 _ A24.out).mono ?_); rintro e w' ⟨rfl, ⟨nd, rfl⟩⟩) | (go_at_call 23; (with_reducible refine (ashlarref01_Fixed.calls kj5 a1 t126 _ A25.out).mono ?_); rintro e w' ⟨rfl, ⟨nd, rfl⟩⟩))
              go_ret
              exact ⟨by first | rfl | (simp [errW_none, errW_some] <;> rfl) | (simp [*, errW_none, errW_some] <;> rfl), by repeat (first | (with_reducible first | exact HB.out | apply below_alloc | apply pw_below_drewN | apply below_drew1) | exact HB.out)⟩
          · rw [if_neg c23] at H
            have c23b0 : (t123 == t124) = false := beq_eq_false_iff_ne.mpr c23
            have c23b1 : (t123 != t124) = true := bne_iff_ne.mpr c23
            obtain rfl := Option.some.inj H
            go_wp2_with (first | ((with_reducible refine gate_callee (f := 20) rfl ?_); refine goesL_ (some 36) rfl rfl Try.func20 (by kernel_rfl) rfl #[.int .i64 a1] rfl (by (try simp only [List.map_toArray, List.map_cons, List.map_nil]); first | done | rfl | (simp only [List.length_drop, List.length_take]; rfl)) ?_; (with_reducible refine (geom_Group.calls a1 t123 _ A21.out).mono ?_); rintro e w' ⟨rfl, ⟨nd, rfl⟩⟩; refine ⟨_, rfl, ?_⟩) | ((with_reducible refine gate_callee (f := 21) rfl ?_); refine goesL_ (some 38) rfl rfl Try.func21 (by kernel_rfl) rfl #[.int .i64 a1] rfl (by (try simp only [List.map_toArray, List.map_cons, List.map_nil]); first | done | rfl | (simp only [List.length_drop, List.length_take]; rfl)) ?_; (with_reducible refine (ashlarref01_Group.calls a1 t124 _ A22.out).mono ?_); rintro e w' ⟨rfl, ⟨nd, rfl⟩⟩; refine ⟨_, rfl, ?_⟩))
            go_ret
            exact ⟨by first | rfl | (simp [errW_none, errW_some] <;> rfl) | (simp [*, errW_none, errW_some] <;> rfl), by repeat (first | (with_reducible first | exact HB.out | apply below_alloc | apply pw_below_drewN | apply below_drew1) | exact HB.out)⟩
  · replace c5 := Bool.eq_false_iff.mpr c5
    subst c5
    have H1 : (some false) = some r := by rw [if_neg (show ¬ (false = true) by decide)] at H; exact H
    clear H
    have H := H1
    clear H1
    obtain rfl := Option.some.inj H
    go_enter Try.func3, Try.ntmps3
    go_wp2_with (first | ((with_reducible refine gate_callee (f := 11) rfl ?_); refine goesL_ (some 7) rfl rfl Try.func11 (by kernel_rfl) rfl #[] rfl (by (try simp only [List.map_toArray, List.map_cons, List.map_nil]); first | done | rfl | (simp only [List.length_drop, List.length_take]; rfl)) ?_; (with_reducible refine (ashlarlaw04_awake.calls  false _ A4.out).mono ?_); rintro e w' ⟨rfl, ⟨nd, rfl⟩⟩; refine ⟨_, rfl, ?_⟩))
    go_ret
    exact ⟨by first | rfl | (simp [errW_none, errW_some] <;> rfl) | (simp [*, errW_none, errW_some] <;> rfl), by repeat (first | (with_reducible first | exact HB.out | apply below_alloc | apply pw_below_drewN | apply below_drew1) | exact HB.out)⟩

/-- THE ONE PURE STATEMENT of ashlarlaw04_GeomTells: yours. -/
def ashlarlaw04_GeomTells.Pure : Prop := ∀ (a0 : Int) (a1 : Int) (a2 : Int), (Lit.int .i64 a0).wf = true → (Lit.int .i64 a1).wf = true → (Lit.int .i64 a2).wf = true → ∃ k, ashlarlaw04_GeomTells.f k a0 a1 a2 = some true
theorem ashlarlaw04_GeomTells.walk (P : ashlarlaw04_GeomTells.Pure) (a0 : Int) (a1 : Int) (a2 : Int) (w : World) (w0 : (Lit.int .i64 a0).wf = true) (w1 : (Lit.int .i64 a1).wf = true) (w2 : (Lit.int .i64 a2).wf = true) :
    Calls Try.prog 3 #[.int .i64 a0, .int .i64 a1, .int .i64 a2] w fun e w' => e = .returned (.bool true) ∧ Below w.heap.size w w' := by
  obtain ⟨k, h⟩ := P a0 a1 a2 w0 w1 w2
  refine (ashlarlaw04_GeomTells.calls k a0 a1 a2 true w h).mono ?_
  rintro e w' ⟨rfl, hd⟩
  exact ⟨rfl, hd⟩

end Go.Proofs.Ytpcdfmfmakahkaa.PGeomTells
