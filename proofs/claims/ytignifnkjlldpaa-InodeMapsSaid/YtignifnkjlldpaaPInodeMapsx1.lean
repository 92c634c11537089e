/- Written by a program of this session (xprint.py) out of the translation. What is proved, in the end: the Go law InodeMaps answers true at every input, and its arguments read behind the call as before; no condition. -/
import Derived.Test.YtignifnkjlldpaaPInodeMapsx0
namespace Go.Proofs.Ytignifnkjlldpaa.PInodeMaps
open Go.RowKit Go.Proofs.YtignifnkjlldpaaW.PrintWords Go.Proofs.YtignifnkjlldpaaW.PrintLast Go.Proofs.YtignifnkjlldpaaW.PrintMore
attribute [local go_sem] max2_int min2_int max_two min_two max_three min_three max_four min_four   -- for this text's walks alone
set_option linter.unusedVariables false
set_option linter.unusedSimpArgs false

/-! ### inode_place: function 74 -/
def inode_place.f (a0 : Int) : Option (Bool) := if a0 ≥ 0 then (some (decide (a0 < 768))) else (some false)
set_option maxHeartbeats 8000000 in
set_option maxRecDepth 100000 in
theorem inode_place.calls (a0 : Int) (r : Bool) (w : World) (h : inode_place.f a0 = some r) :
    Calls Try.prog 74 #[.int .i64 a0] w fun e w' => e = .returned (.bool r) ∧ Drawn0 w w' := by
  have H : (if a0 ≥ 0 then (some (decide (a0 < 768))) else (some false)) = some r := h
  clear h
  by_cases c2 : a0 ≥ 0
  · rw [if_pos c2] at H
    have c2b0 : decide (0 ≤ a0) = true := decide_eq_true c2
    clear c2
    obtain rfl := Option.some.inj H
    go_enter Try.func74, Try.ntmps74
    go_wp2
    go_ret
    exact ⟨by first | rfl | (simp; done) | (simp [*]; done), by repeat (first | exact Drawn0.refl _ | apply Drawn0.step)⟩
  · rw [if_neg c2] at H
    have c2b0 : decide (0 ≤ a0) = false := decide_eq_false c2
    clear c2
    obtain rfl := Option.some.inj H
    go_enter Try.func74, Try.ntmps74
    go_wp2
    go_ret
    exact ⟨by first | rfl | (simp; done) | (simp [*]; done), by repeat (first | exact Drawn0.refl _ | apply Drawn0.step)⟩

/-! ### inode_places_1: function 101 -/
def inode_places_1.f (a0 : Int) : Option (Bool) := (inode_place.f a0).bind fun t101 => (some (!t101))
set_option maxHeartbeats 8000000 in
set_option maxRecDepth 100000 in
theorem inode_places_1.calls (a0 : Int) (r : Bool) (w : World) (h : inode_places_1.f a0 = some r) :
    Calls Try.prog 101 #[.int .i64 a0] w fun e w' => e = .returned (.bool r) ∧ Drawn0 w w' := by
  have H : ((inode_place.f a0).bind fun t101 => (some (!t101))) = some r := h
  clear h
  replace H := Option.bind_eq_some_iff.mp H
  obtain ⟨t101, A20, H⟩ := H
  replace H : (some (!t101)) = some r := H
  have A2 := Aside0.mk A20
  clear A20
  obtain rfl := Option.some.inj H
  go_enter Try.func101, Try.ntmps101
  go_wp2_with (first | ((with_reducible refine gate_callee (f := 74) rfl ?_); refine goesL_ (some 4) rfl rfl Try.func74 (by kernel_rfl) rfl #[.int .i64 a0] rfl (by (try simp only [List.map_toArray, List.map_cons, List.map_nil]); first | done | rfl | (simp only [List.length_drop, List.length_take]; rfl)) ?_; (with_reducible refine (inode_place.calls a0 t101 _ A2.out).mono ?_); rintro e w' ⟨rfl, ⟨nd, rfl⟩⟩; refine ⟨_, rfl, ?_⟩))
  go_ret
  exact ⟨by first | rfl | (simp; done) | (simp [*]; done), by repeat (first | exact Drawn0.refl _ | apply Drawn0.step)⟩

/-! ### slices_IndexFunc_int_int: function 115 -/
def slices_IndexFunc_int_int.l0 : Nat → List Int → Int → Int → Option (Int)
  | 0, _, _, _ => none
  | k + 1, x0, x7, x8 => if x8 < x7 then (if 0 ≤ x8 then (if x8 < (x0.length : Int) then ((inode_places_1.f (rd x0 x8)).bind fun t103 => (if t103 = true then (some x8) else (slices_IndexFunc_int_int.l0 k x0 x7 (wrap64 (x8 + 1))))) else (none)) else (none)) else (some (-1))
def slices_IndexFunc_int_int.f (k : Nat) (l0 : List Int) (a1 : Int) : Option (Int) := slices_IndexFunc_int_int.l0 k l0 (l0.length : Int) 0
theorem slices_IndexFunc_int_int.mono_l : ∀ k, (∀ y0 y1 y2, LeO (slices_IndexFunc_int_int.l0 k y0 y1 y2) (slices_IndexFunc_int_int.l0 (k + 1) y0 y1 y2))
  | 0 => fun _ _ _ r h => by simp [slices_IndexFunc_int_int.l0] at h
  | k + 1 => by
    have ih0 := slices_IndexFunc_int_int.mono_l k
    · intro y0 y1 y2
      unfold slices_IndexFunc_int_int.l0
      repeat' first
      | (with_reducible exact ih0 _ _ _)
      | (with_reducible exact LeO.refl _)
      | (with_reducible exact LeO.none _)
      | (with_reducible refine LeO.ite ?_ ?_)
      | (with_reducible refine LeO.bind ?_ (fun _ => ?_))
      | exact ih0 _ _ _
      | exact LeO.none _
      | refine LeO.ite ?_ ?_
      | refine LeO.bind ?_ (fun _ => ?_)
theorem slices_IndexFunc_int_int.mono : ∀ a0 a1 k, LeO (slices_IndexFunc_int_int.f k a0 a1) (slices_IndexFunc_int_int.f (k + 1) a0 a1) := by
  intro a0 a1 k
  have ih0 := slices_IndexFunc_int_int.mono_l k
  unfold slices_IndexFunc_int_int.f
  repeat' first
      | (with_reducible exact ih0 _ _ _)
      | (with_reducible exact LeO.refl _)
      | (with_reducible exact LeO.none _)
      | (with_reducible refine LeO.ite ?_ ?_)
      | (with_reducible refine LeO.bind ?_ (fun _ => ?_))
      | exact ih0 _ _ _
      | exact LeO.none _
      | refine LeO.ite ?_ ?_
      | refine LeO.bind ?_ (fun _ => ?_)
set_option maxHeartbeats 8000000 in
set_option maxRecDepth 100000 in
theorem slices_IndexFunc_int_int.calls (k : Nat) (A0 : Option Addr) (c0 : Nat) (l0 : List Int) (a1 : Int) (r : Int) (w : World) (hr0 : Kd.C (Kd.int .i64) w A0 l0.length l0) (hc0 : l0.length ≤ c0) (h : slices_IndexFunc_int_int.f k l0 a1 = some r) :
    Calls Try.prog 115 #[.slice A0 l0.length c0, .func (.func 101) #[] #[]] w fun e w' => e = .returned (.int .i64 r) ∧ Drawn0 w w' := by
  have HR0 := Aside0.mk hr0
  have HC0 := Aside0.mk hc0
  clear hr0 hc0
  have H : (slices_IndexFunc_int_int.l0 k l0 (l0.length : Int) 0) = some r := h
  clear h
  have H' := Aside0.mk H
  clear H
  go_enter Try.func115, Try.ntmps115
  go_wp2
  go_loopg [8] k (fun kq v8 w' => ∃ (x8_1 : Int), v8 = .int .i64 x8_1 ∧ Aside0 (slices_IndexFunc_int_int.l0 kq l0 (l0.length : Int) x8_1 = some r) ∧ Aside0 (kq ≤ k) ∧ Drawn0 w w')
  case atStart => exact ⟨(0), (by first | rfl | (simp; done) | (simp [*]; done)), H', ⟨Nat.le_refl _⟩, by repeat (first | exact Drawn0.refl _ | apply Drawn0.step)⟩
  case round =>
    clear H'
    try clear c1
    try clear p2
    obtain ⟨x8_1, rfl, HA, HK1, ⟨m1, rfl⟩⟩ := hrel
    cases gk with
    | zero => exact absurd HA.out (by simp [slices_IndexFunc_int_int.l0])
    | succ k1 =>
      have H := HA.out
      clear HA
      simp only [slices_IndexFunc_int_int.l0] at H
      by_cases c3 : x8_1 < (l0.length : Int)
      · rw [if_pos c3] at H
        have c3b0 : decide (x8_1 < (l0.length : Int)) = true := decide_eq_true c3
        clear c3
        by_cases c4 : 0 ≤ x8_1
        · rw [if_pos c4] at H
          have c4b0 : decide (0 ≤ x8_1) = true := decide_eq_true c4
          clear c4
          by_cases c5 : x8_1 < (l0.length : Int)
          · rw [if_pos c5] at H
            have c5b0 : decide (x8_1 < (l0.length : Int)) = true := decide_eq_true c5
            clear c5
            replace H := Option.bind_eq_some_iff.mp H
            obtain ⟨t103, A60, H⟩ := H
            replace H : (if t103 = true then (some x8_1) else (slices_IndexFunc_int_int.l0 k1 l0 (l0.length : Int) (wrap64 (x8_1 + 1)))) = some r := H
            have A6 := Aside0.mk A60
            clear A60
            by_cases c7 : t103 = true
            · subst c7
              have H1 : (some x8_1) = some r := by rw [if_pos rfl] at H; exact H
              clear H
              have H := H1
              clear H1
              obtain rfl := Option.some.inj H
              have p102 : 0 ≤ (x8_1 : Int) := of_decide_eq_true (by first | (with_reducible assumption) | assumption)
              have q102 : x8_1 < (l0.length : Int) := of_decide_eq_true (by first | (with_reducible assumption) | assumption)
              obtain ⟨ad102, e102, hx102_0⟩ := Kd.at_int HR0.out x8_1 p102 q102
              cases e102
              replace p102 := eq_true p102
              replace q102 := eq_true q102
              go_wp2_with (first | (go_at_call 101; go_must (refine (inode_places_1.calls (rd l0 x8_1) true _ A6.out).mono ?_); rintro e w' ⟨rfl, ⟨nd, rfl⟩⟩))
              go_ret
              exact ⟨by first | rfl | (simp; done) | (simp [*]; done), by repeat (first | exact Drawn0.refl _ | apply Drawn0.step)⟩
            · replace c7 := Bool.eq_false_iff.mpr c7
              subst c7
              have H1 : (slices_IndexFunc_int_int.l0 k1 l0 (l0.length : Int) (wrap64 (x8_1 + 1))) = some r := by rw [if_neg (show ¬ (false = true) by decide)] at H; exact H
              clear H
              have H := H1
              clear H1
              have H' := Aside0.mk H
              clear H
              have p102 : 0 ≤ (x8_1 : Int) := of_decide_eq_true (by first | (with_reducible assumption) | assumption)
              have q102 : x8_1 < (l0.length : Int) := of_decide_eq_true (by first | (with_reducible assumption) | assumption)
              obtain ⟨ad102, e102, hx102_0⟩ := Kd.at_int HR0.out x8_1 p102 q102
              cases e102
              replace p102 := eq_true p102
              replace q102 := eq_true q102
              go_wp2_with (first | (go_at_call 101; go_must (refine (inode_places_1.calls (rd l0 x8_1) false _ A6.out).mono ?_); rintro e w' ⟨rfl, ⟨nd, rfl⟩⟩))
              go_roundg k1
              case measure => have := HK1.out; omega
              case rel => exact ⟨(wrap64 (x8_1 + 1)), (by first | rfl | (simp; done) | (simp [*]; done)), H', ⟨by have := HK1.out; omega⟩, by repeat (first | exact Drawn0.refl _ | apply Drawn0.step)⟩
          · rw [if_neg c5] at H
            exact absurd H (by simp)
        · rw [if_neg c4] at H
          exact absurd H (by simp)
      · rw [if_neg c3] at H
        have c3b0 : decide (x8_1 < (l0.length : Int)) = false := decide_eq_false c3
        clear c3
        obtain rfl := Option.some.inj H
        go_wp2
        go_ret
        exact ⟨by first | rfl | (simp; done) | (simp [*]; done), by repeat (first | exact Drawn0.refl _ | apply Drawn0.step)⟩

/-! ### slices_ContainsFunc_int_int: function 100 -/
def slices_ContainsFunc_int_int.f (k : Nat) (l0 : List Int) (a1 : Int) : Option (Bool) := (slices_IndexFunc_int_int.f k l0 a1).bind fun t104 => (some (decide (t104 ≥ 0)))
theorem slices_ContainsFunc_int_int.mono : ∀ a0 a1 k, LeO (slices_ContainsFunc_int_int.f k a0 a1) (slices_ContainsFunc_int_int.f (k + 1) a0 a1) := by
  intro a0 a1 k
  unfold slices_ContainsFunc_int_int.f
  repeat' first
      | (with_reducible exact slices_IndexFunc_int_int.mono _ _ _)
      | (with_reducible exact LeO.refl _)
      | (with_reducible exact LeO.none _)
      | (with_reducible refine LeO.ite ?_ ?_)
      | (with_reducible refine LeO.bind ?_ (fun _ => ?_))
      | exact slices_IndexFunc_int_int.mono _ _ _
      | exact LeO.none _
      | refine LeO.ite ?_ ?_
      | refine LeO.bind ?_ (fun _ => ?_)
set_option maxHeartbeats 8000000 in
set_option maxRecDepth 100000 in
theorem slices_ContainsFunc_int_int.calls (k : Nat) (A0 : Option Addr) (c0 : Nat) (l0 : List Int) (a1 : Int) (r : Bool) (w : World) (hr0 : Kd.C (Kd.int .i64) w A0 l0.length l0) (hc0 : l0.length ≤ c0) (h : slices_ContainsFunc_int_int.f k l0 a1 = some r) :
    Calls Try.prog 100 #[.slice A0 l0.length c0, .func (.func 101) #[] #[]] w fun e w' => e = .returned (.bool r) ∧ Drawn0 w w' := by
  have HR0 := Aside0.mk hr0
  have HC0 := Aside0.mk hc0
  clear hr0 hc0
  have H : ((slices_IndexFunc_int_int.f k l0 a1).bind fun t104 => (some (decide (t104 ≥ 0)))) = some r := h
  clear h
  replace H := Option.bind_eq_some_iff.mp H
  obtain ⟨t104, A30, H⟩ := H
  replace H : (some (decide (t104 ≥ 0))) = some r := H
  have A3 := Aside0.mk A30
  clear A30
  obtain rfl := Option.some.inj H
  go_enter Try.func100, Try.ntmps100
  go_wp2_with (first | ((with_reducible refine gate_callee (f := 115) rfl ?_); refine goesL_ (some 7) rfl rfl Try.func115 (by kernel_rfl) rfl #[.slice A0 l0.length c0, .func (.func 101) #[] #[]] rfl (by (try simp only [List.map_toArray, List.map_cons, List.map_nil]); first | done | rfl | (simp only [List.length_drop, List.length_take]; rfl)) ?_; (with_reducible refine (slices_IndexFunc_int_int.calls k _ _ l0 a1 t104 _ ?side1 ?side2 A3.out).mono ?_); (case side1 => repeat (first | exact HR0.out | (with_reducible refine Kd.C_alloc ?_ _) | (with_reducible refine Kd.C_drewN ?_ _) | (with_reducible refine Kd.C_drew ?_))); (case side2 => exact HC0.out); rintro e w' ⟨rfl, ⟨nd, rfl⟩⟩; refine ⟨_, rfl, ?_⟩))
  go_ret
  exact ⟨by first | rfl | (simp; done) | (simp [*]; done), by repeat (first | exact Drawn0.refl _ | apply Drawn0.step)⟩

/-! ### inode_places: function 65 -/
def inode_places.f (k : Nat) (l0 : List Int) : Option (Bool) := (slices_ContainsFunc_int_int.f k l0 0).bind fun t105 => (some (!t105))
theorem inode_places.mono : ∀ a0 k, LeO (inode_places.f k a0) (inode_places.f (k + 1) a0) := by
  intro a0 k
  unfold inode_places.f
  repeat' first
      | (with_reducible exact slices_ContainsFunc_int_int.mono _ _ _)
      | (with_reducible exact LeO.refl _)
      | (with_reducible exact LeO.none _)
      | (with_reducible refine LeO.ite ?_ ?_)
      | (with_reducible refine LeO.bind ?_ (fun _ => ?_))
      | exact slices_ContainsFunc_int_int.mono _ _ _
      | exact LeO.none _
      | refine LeO.ite ?_ ?_
      | refine LeO.bind ?_ (fun _ => ?_)
set_option maxHeartbeats 8000000 in
set_option maxRecDepth 100000 in
theorem inode_places.calls (k : Nat) (A0 : Option Addr) (c0 : Nat) (l0 : List Int) (r : Bool) (w : World) (hr0 : Kd.C (Kd.int .i64) w A0 l0.length l0) (hc0 : l0.length ≤ c0) (h : inode_places.f k l0 = some r) :
    Calls Try.prog 65 #[.slice A0 l0.length c0] w fun e w' => e = .returned (.bool r) ∧ Drawn0 w w' := by
  have HR0 := Aside0.mk hr0
  have HC0 := Aside0.mk hc0
  clear hr0 hc0
  have H : ((slices_ContainsFunc_int_int.f k l0 0).bind fun t105 => (some (!t105))) = some r := h
  clear h
  replace H := Option.bind_eq_some_iff.mp H
  obtain ⟨t105, A20, H⟩ := H
  replace H : (some (!t105)) = some r := H
  have A2 := Aside0.mk A20
  clear A20
  obtain rfl := Option.some.inj H
  go_enter Try.func65, Try.ntmps65
  go_wp2_with (first | ((with_reducible refine gate_callee (f := 100) rfl ?_); refine goesL_ (some 4) rfl rfl Try.func100 (by kernel_rfl) rfl #[.slice A0 l0.length c0, .func (.func 101) #[] #[]] rfl (by (try simp only [List.map_toArray, List.map_cons, List.map_nil]); first | done | rfl | (simp only [List.length_drop, List.length_take]; rfl)) ?_; (with_reducible refine (slices_ContainsFunc_int_int.calls k _ _ l0 0 t105 _ ?side1 ?side2 A2.out).mono ?_); (case side1 => repeat (first | exact HR0.out | (with_reducible refine Kd.C_alloc ?_ _) | (with_reducible refine Kd.C_drewN ?_ _) | (with_reducible refine Kd.C_drew ?_))); (case side2 => exact HC0.out); rintro e w' ⟨rfl, ⟨nd, rfl⟩⟩; refine ⟨_, rfl, ?_⟩))
  go_ret
  exact ⟨by first | rfl | (simp; done) | (simp [*]; done), by repeat (first | exact Drawn0.refl _ | apply Drawn0.step)⟩

-- NOT PRINTED: function 25 (inode_Formed)

/-! ### inode_Place: function 28 -/
def inode_Place.f (a0 : Int) : Option (Int × Int) := if a0 < 1 then (some ((-1), (-1))) else (if a0 ≥ 48 then (some ((-1), (-1))) else (some (wrap64 (Int.tdiv a0 8), Int.tmod a0 8)))
set_option maxHeartbeats 8000000 in
set_option maxRecDepth 100000 in
theorem inode_Place.calls (a0 : Int) (r1 : Int) (r2 : Int) (w : World) (h : inode_Place.f a0 = some (r1, r2)) :
    Calls Try.prog 28 #[.int .i64 a0] w fun e w' => e = .returned (.tuple #[.int .i64 r1, .int .i64 r2]) ∧ Drawn0 w w' := by
  have H : (if a0 < 1 then (some ((-1), (-1))) else (if a0 ≥ 48 then (some ((-1), (-1))) else (some (wrap64 (Int.tdiv a0 8), Int.tmod a0 8)))) = some (r1, r2) := h
  clear h
  by_cases c2 : a0 < 1
  · rw [if_pos c2] at H
    have c2b0 : decide (a0 < 1) = true := decide_eq_true c2
    clear c2
    simp only [Option.some.injEq, Prod.mk.injEq] at H
    obtain ⟨rfl, rfl⟩ := H
    go_enter Try.func28, Try.ntmps28
    go_wp2
    go_ret2
    exact ⟨by first | rfl | (simp; done) | (simp [*]; done), by repeat (first | exact Drawn0.refl _ | apply Drawn0.step)⟩
  · rw [if_neg c2] at H
    have c2b0 : decide (a0 < 1) = false := decide_eq_false c2
    clear c2
    by_cases c3 : a0 ≥ 48
    · rw [if_pos c3] at H
      have c3b0 : decide (48 ≤ a0) = true := decide_eq_true c3
      clear c3
      simp only [Option.some.injEq, Prod.mk.injEq] at H
      obtain ⟨rfl, rfl⟩ := H
      go_enter Try.func28, Try.ntmps28
      go_wp2
      go_ret2
      exact ⟨by first | rfl | (simp; done) | (simp [*]; done), by repeat (first | exact Drawn0.refl _ | apply Drawn0.step)⟩
    · rw [if_neg c3] at H
      have c3b0 : decide (48 ≤ a0) = false := decide_eq_false c3
      clear c3
      simp only [Option.some.injEq, Prod.mk.injEq] at H
      obtain ⟨rfl, rfl⟩ := H
      go_enter Try.func28, Try.ntmps28
      go_wp2
      go_ret2
      exact ⟨by first | rfl | (simp; done) | (simp [*]; done), by repeat (first | exact Drawn0.refl _ | apply Drawn0.step)⟩

/-! ### ashlarlaw07_awake: function 13, by hand -/
def ashlarlaw07_awake.f : Option Bool := some true
set_option maxRecDepth 100000 in
theorem ashlarlaw07_awake.zeros (W : World) : Sem.run Try.prog (Op.equalIn 9999 43 (.agg #[.int .i64 0, .int .i64 0, .int .i64 0, .int .i64 0, .int .i64 0, .int .i64 0, .int .i64 0, .int .i64 0, .int .i64 0, .int .i64 0]) (.agg #[.int .i64 0, .int .i64 0, .int .i64 0, .int .i64 0, .int .i64 0, .int .i64 0, .int .i64 0, .int .i64 0, .int .i64 0, .int .i64 0])) W = .ok true W := by
  have hc : Try.prog.cellsOf 3 = 1 := by kernel_rfl
  have hp : ∀ i, i < 10 → (part 3 #[.int .i64 0, .int .i64 0, .int .i64 0, .int .i64 0, .int .i64 0, .int .i64 0, .int .i64 0, .int .i64 0, .int .i64 0, .int .i64 0] i).run Try.prog W = .ok (.int .i64 0) W := by
    intro i hi
    refine run_part_plain W (by kernel_rfl) ?_
    exact match i, hi with
    | 0, _ => rfl
    | 1, _ => rfl
    | 2, _ => rfl
    | 3, _ => rfl
    | 4, _ => rfl
    | 5, _ => rfl
    | 6, _ => rfl
    | 7, _ => rfl
    | 8, _ => rfl
    | 9, _ => rfl
    | n + 10, h => absurd h (by omega)
  have he := run_equalIn_int (P := Try.prog) (w := W) 9997 3 .i64 .i64 0 0 Try.underlying3
  rw [show (9999:Nat) = 9998 + 1 from rfl, run_equalIn_array (i := ((Try.prog.info? 3).get (by kernel_rfl))) (n := 10) (e := 3) _ _ _ _ Try.underlying43 (by kernel_rfl), hc]
  have e1 : List.range 10 = [0,1,2,3,4,5,6,7,8,9] := by decide
  rw [e1]
  generalize (#[.int .i64 0, .int .i64 0, .int .i64 0, .int .i64 0, .int .i64 0, .int .i64 0, .int .i64 0, .int .i64 0, .int .i64 0, .int .i64 0] : Array Value) = zs at *
  simp [Op.eqItems, hp, he]
set_option maxHeartbeats 800000 in
set_option maxRecDepth 100000 in
theorem ashlarlaw07_awake.formed (w : World) : Calls Try.prog 25 #[.agg #[.int .i64 0, .int .i64 0, .int .i64 0, .int .i64 0, .int .i64 0, .int .i64 0, .int .i64 0, .int .i64 0, .int .i64 0, .int .i64 0, .int .i64 0, .int .i64 0, .int .i64 0, .int .i64 0]] w fun e w' => e = .returned (.bool true) ∧ Below w.heap.size w w' := by
  have hu := Try.underlying45
  have HB := Aside0.mk (Below.refl w.heap.size w)
  go_enter Try.func25, Try.ntmps25
  go_upto_region 2 with (first | ((with_reducible refine gate_dst (N := 1) rfl ?_); refine box_event ?hg (N := 1) ?hd (cs := #[.int .i64 0, .int .i64 0, .int .i64 0, .int .i64 0, .int .i64 0, .int .i64 0, .int .i64 0, .int .i64 0, .int .i64 0, .int .i64 0, .int .i64 0, .int .i64 0, .int .i64 0, .int .i64 0]) (t := 45) ?hr ?_; (case hd => rfl); (case hg => rfl); (case hr => first | (go_simp; done) | (go_simp; rfl)); intro gb hg w3 hbox hb; have HB3 := Aside0.mk (below_step HB.out hb); have BK := Aside0.mk hbox; clear hb hbox hg))
  have hc0 : w3.cell? ⟨gb, 0, none⟩ = some (.int .i64 0) := (blk_cell BK.out 0).trans rfl
  have hf0 := blk_frozen BK.out 0
  have hc1 : w3.cell? ⟨gb, 1, none⟩ = some (.int .i64 0) := (blk_cell BK.out 1).trans rfl
  have hf1 := blk_frozen BK.out 1
  have hc2 : w3.cell? ⟨gb, 2, none⟩ = some (.int .i64 0) := (blk_cell BK.out 2).trans rfl
  have hf2 := blk_frozen BK.out 2
  have hc3 : w3.cell? ⟨gb, 3, none⟩ = some (.int .i64 0) := (blk_cell BK.out 3).trans rfl
  have hf3 := blk_frozen BK.out 3
  have hc4 : w3.cell? ⟨gb, 4, none⟩ = some (.int .i64 0) := (blk_cell BK.out 4).trans rfl
  have hf4 := blk_frozen BK.out 4
  have hc5 : w3.cell? ⟨gb, 5, none⟩ = some (.int .i64 0) := (blk_cell BK.out 5).trans rfl
  have hf5 := blk_frozen BK.out 5
  have hc6 : w3.cell? ⟨gb, 6, none⟩ = some (.int .i64 0) := (blk_cell BK.out 6).trans rfl
  have hf6 := blk_frozen BK.out 6
  have hc7 : w3.cell? ⟨gb, 7, none⟩ = some (.int .i64 0) := (blk_cell BK.out 7).trans rfl
  have hf7 := blk_frozen BK.out 7
  have hc8 : w3.cell? ⟨gb, 8, none⟩ = some (.int .i64 0) := (blk_cell BK.out 8).trans rfl
  have hf8 := blk_frozen BK.out 8
  have hc9 : w3.cell? ⟨gb, 9, none⟩ = some (.int .i64 0) := (blk_cell BK.out 9).trans rfl
  have hf9 := blk_frozen BK.out 9
  have hc10 : w3.cell? ⟨gb, 10, none⟩ = some (.int .i64 0) := (blk_cell BK.out 10).trans rfl
  have hf10 := blk_frozen BK.out 10
  have hc11 : w3.cell? ⟨gb, 11, none⟩ = some (.int .i64 0) := (blk_cell BK.out 11).trans rfl
  have hf11 := blk_frozen BK.out 11
  have hc12 : w3.cell? ⟨gb, 12, none⟩ = some (.int .i64 0) := (blk_cell BK.out 12).trans rfl
  have hf12 := blk_frozen BK.out 12
  have hc13 : w3.cell? ⟨gb, 13, none⟩ = some (.int .i64 0) := (blk_cell BK.out 13).trans rfl
  have hf13 := blk_frozen BK.out 13
  have ke := ashlarlaw07_awake.zeros
  go_wp2
  go_ret
  exact ⟨by simp, HB3.out⟩
set_option maxHeartbeats 800000 in
set_option maxRecDepth 100000 in
theorem ashlarlaw07_awake.calls (r : Bool) (w : World) (h : ashlarlaw07_awake.f = some r) : Calls Try.prog 13 #[] w fun e w' => e = .returned (.bool r) ∧ Below w.heap.size w w' := by
  obtain rfl := Option.some.inj h
  clear h
  have HB := Aside0.mk (Below.refl w.heap.size w)
  go_enter Try.func13, Try.ntmps13
  go_wp2_with (first
    | (go_at_call 28; go_must (refine (inode_Place.calls 9 1 1 _ (by decide +kernel)).mono ?_); rintro e w1 ⟨rfl, hd⟩; have HB1 := Aside0.mk (below_step HB.out hd.below); clear hd)
    | (go_at_call 25; go_must (refine (ashlarlaw07_awake.formed _).mono ?_); rintro e w2 ⟨rfl, hb⟩; have HB2 := Aside0.mk (below_step HB1.out hb); clear hb))
  go_ret
  exact ⟨by simp, HB2.out⟩


/-! ### slices_Clone_byte_byte: function 102, by hand -/
def slices_Clone_byte_byte.f (l0 : List Int) : Option (List Int) := if l0.length < 140737488355328 then some l0 else none
set_option maxHeartbeats 400000 in
set_option maxRecDepth 100000 in
theorem slices_Clone_byte_byte.calls (A0 : Option Addr) (c0 : Nat) (l0 : List Int) (r : List Int) (w : World) (hr : Kd.C (Kd.int .u8) w A0 l0.length l0) (hc : l0.length ≤ c0) (h : slices_Clone_byte_byte.f l0 = some r) :
    Calls Try.prog 102 #[.slice A0 l0.length c0] w fun e w' => ∃ v0_ : Value, e = .returned v0_ ∧ Kd.R (Kd.int .u8) 5 w' w.heap.size (fun _ => True) v0_ r ∧ Below w.heap.size w w' := by
  obtain ⟨hl, rfl⟩ : l0.length < 140737488355328 ∧ l0 = r := by
    unfold slices_Clone_byte_byte.f at h
    split at h
    · exact ⟨‹_›, Option.some.inj h⟩
    · cases h
  clear h
  have HR := Aside0.mk hr
  clear hr hc
  have HL := Aside0.mk hl
  clear hl
  cases A0 with
  | none =>
    have h0 : l0 = [] := by
      cases l0 with
      | nil => rfl
      | cons x l => obtain ⟨ad, h, _⟩ := HR.out.2.2 (by simp); cases h
    have q := fun (w : World) => Lib.run_eql_slice_nil (P := Try.prog) w 23 5 none l0.length c0 0 0 Try.underlying23
    have H0 := Aside0.mk h0
    clear h0
    go_enter Try.func102, Try.ntmps102
    go_wp2_with fail
    go_ret
    exact ⟨_, rfl, by rw [H0.out]; exact Kd.R_nil _ _ _ _ _, Below.refl _ _⟩
  | some ad =>
    have q := fun (w : World) => Lib.run_eql_slice_nil (P := Try.prog) w 23 5 (some ad) l0.length c0 0 0 Try.underlying23
    go_enter Try.func102, Try.ntmps102
    go_wp2_with (first | ((with_reducible refine gate_dst (N := 5) rfl ?_); refine Kd.R_lit (Kd.int .u8) _ 5 ?hg (N := 5) ?hd (xs := ([] : List Int)) (inner := []) (ok := fun _ => True) (okp := fun _ => True) ?hr ?hp (fun _ hk => hk) trivial (Below.refl _ _) (Nat.le_refl _) (by simp) ?_; (case hd => rfl); (case hg => rfl); (case hr => first | (go_simp; done) | (go_simp; rfl)); (case hp => exact (Reps.none _ _)); intro v1 w1 ho1 hb1 _ _; have HO1 := Aside0.mk ho1; have HB1 := Aside0.mk hb1; clear ho1 hb1) | ((with_reducible refine gate_builtin (b := .append) (xs := #[.tmp 5, .tmp 6]) rfl ?_); refine Kd.R_append_rows (Kd.int .u8) (w0 := w) w.heap.size rfl (.tmp 5) (.tmp 6) 23 5 (.int .u8 0) 1 rfl Try.underlying23 info5 rfl (by decide) (by omega) _ [] l0 _ _ _ (fun _ => True) (fun _ => False) rfl rfl HO1.out (Kd.C_below HR.out HB1.out) (fun _ _ h => h) (fun _ h => h.elim) (fun _ _ => trivial) HB1.out HB1.out.size (by have := HL.out; simp; omega) ?_; intro v2 w2 ho2 hb2 _ _; have HO2 := Aside0.mk ho2; have HB2 := Aside0.mk hb2; clear ho2 hb2))
    go_ret
    exact ⟨_, rfl, HO2.out, HB2.out⟩


-- NOT PRINTED: function 116 (slices_Grow_byte_byte)

/-! ### slices_Concat_byte_byte: function 103, by hand -/
def slices_Concat_byte_byte.f (l0 : List (List Int)) : Option (List Int) := if l0.flatten.length < 140737488355328 then some l0.flatten else none
set_option maxHeartbeats 400000 in
set_option maxRecDepth 100000 in
theorem grow_byte_calls (n : Int) (h0 : 0 ≤ n) (hn : n < 140737488355328) (w : World) :
    Calls Try.prog 116 #[.slice none 0 0, .int .i64 n] w fun e w' => ∃ v0_ : Value, e = .returned v0_ ∧ Kd.R (Kd.int .u8) 5 w' w.heap.size (fun _ => True) v0_ ([] : List Int) ∧ Below w.heap.size w w' := by
  by_cases hz : 0 < n
  · go_enter Try.func116, Try.ntmps116
    go_wp2_with (first | ((with_reducible refine gate_builtin (b := .append) (xs := #[.tmp 20, .tmp 21]) rfl ?_); go_must (refine Kd.R_append_zeros (Kd.int .u8) (w0 := w) w.heap.size rfl (.tmp 20) (.tmp 21) 23 3 5 (.int .u8 0) 1 rfl Try.underlying23 Try.underlying3 info5 rfl (by decide) (by omega) (.slice none 0 0) ([] : List Int) 0 n (fun _ => True) rfl rfl rfl (fun _ _ => trivial) (Kd.R_nil _ _ _ _ _) h0 (Below.refl _ _) (Nat.le_refl _) (by simp; omega) ?_); intro v1 w1 ho1 hb1 _ _; have HB1 := Aside0.mk hb1; obtain ⟨A1, c1, rfl⟩ := Kd.R_slice ho1; have HO1 := Aside0.mk ho1; have kc := cut_to (P := Try.prog) 23 5 .i64 Try.underlying23 rfl A1 ([] ++ List.replicate n.toNat (0 : Int)).length c1 0 (by omega) (by omega) (Kd.R_reads' HO1.out).2.1; clear ho1 hb1))
    go_ret; exact ⟨_, rfl, by simpa using Kd.R_take (m := 0) HO1.out (Nat.zero_le _), HB1.out⟩
  · obtain rfl : n = 0 := by omega
    go_enter Try.func116, Try.ntmps116
    go_wp2_with fail
    go_ret
    exact ⟨_, rfl, Kd.R_nil _ _ _ _ _, Below.refl _ _⟩
def nth (xs : List (List Int)) (i : Nat) : List Int := xs.getD i []
theorem at_LL {e : Nat} {k : IntKind} {w : World} {A : Option Addr} {n : Nat} {xs : List (List Int)} (h : Kd.C (Kd.slice e (Kd.int k)) w A n xs) (i : Nat) (h1 : i < n) :
    ∃ ad A0 c0, A = some ad ∧ w.cell? (ad.add i) = some (.slice A0 (nth xs i).length c0) ∧ (nth xs i).length ≤ c0 ∧ Kd.C (Kd.int k) w A0 (nth xs i).length (nth xs i) := by
  obtain ⟨ad, c, e, _, hK, hc0⟩ := Kd.C_get h [] (i : Int) (by omega) (by omega)
  have hc : ∀ j u, c[j]? = some u → w.cell? (ad.add (i * 1 + j)) = some u := hc0
  obtain ⟨A0, c0, rfl, l0, g0⟩ := hK
  exact ⟨ad, A0, c0, e, by have hq := hc 0 _ rfl; rwa [Nat.mul_one, Nat.add_zero] at hq, l0, g0⟩
def tot (l : List (List Int)) : Int := (l.flatten.length : Int)
theorem tot_le (l : List (List Int)) (i : Nat) : tot (l.take i) ≤ tot l := by
  unfold tot
  have h : (l.take i).flatten.length + (l.drop i).flatten.length = l.flatten.length := by
    rw [← List.length_append, ← List.flatten_append, List.take_append_drop]
  omega
theorem take_snoc (l : List (List Int)) (i : Nat) (h : i < l.length) : l.take (i + 1) = l.take i ++ [nth l i] := by
  unfold nth; rw [List.take_succ_eq_append_getElem h, List.getD_eq_getElem?_getD, List.getElem?_eq_getElem h]; rfl
theorem tot_snoc (l : List (List Int)) (i : Nat) (h : i < l.length) : tot (l.take (i + 1)) = tot (l.take i) + ((nth l i).length : Int) := by
  rw [take_snoc l i h]; simp [tot]
theorem flat_snoc (l : List (List Int)) (i : Nat) (h : i < l.length) : (l.take (i + 1)).flatten = (l.take i).flatten ++ nth l i := by
  rw [take_snoc l i h]; simp
set_option maxHeartbeats 800000 in
set_option maxRecDepth 100000 in
theorem slices_Concat_byte_byte.calls (A0 : Option Addr) (c0 : Nat) (l0 : List (List Int)) (r : List Int) (w : World) (hr : Kd.C (Kd.slice 5 (Kd.int .u8)) w A0 l0.length l0) (hc : l0.length ≤ c0) (h : slices_Concat_byte_byte.f l0 = some r) :
    Calls Try.prog 103 #[.slice A0 l0.length c0] w fun e w' => ∃ v0_ : Value, e = .returned v0_ ∧ Kd.R (Kd.int .u8) 5 w' w.heap.size (fun _ => True) v0_ r ∧ Below w.heap.size w w' := by
  obtain ⟨hl, rfl⟩ : l0.flatten.length < 140737488355328 ∧ l0.flatten = r := by
    unfold slices_Concat_byte_byte.f at h
    split at h
    · exact ⟨‹_›, Option.some.inj h⟩
    · cases h
  clear h
  have HR := Aside0.mk hr
  have hm : (l0.length : Int) ≤ 9223372036854775807 := by have := Kd.C_max hr; omega
  have HL := Aside0.mk hl
  clear hl hr hc
  go_enter Try.func103, Try.ntmps103
  go_wp2_with fail
  go_loop [3, 11] (fun t i => ∃ k : Nat, k ≤ l0.length ∧ i = .int .i64 k ∧ t = .int .i64 (tot (l0.take k))) (fun _ i => l0.length - (intOf i).toNat)
  case atStart => exact ⟨0, Nat.zero_le _, rfl, rfl⟩
  case round =>
    obtain ⟨k, hk, rfl, rfl⟩ := hrel
    have ht0 : 0 ≤ tot (l0.take k) := Int.natCast_nonneg _
    have ht1 : tot (l0.take k) ≤ 140737488355327 := by have := tot_le l0 k; have := HL.out; unfold tot at *; omega
    by_cases hlt : k < l0.length
    · obtain ⟨ad, A1, c1, rfl, hcell, _, hr1⟩ := at_LL HR.out k hlt
      have hs := tot_snoc l0 k hlt
      have ht2 : tot (l0.take k) + ((nth l0 k).length : Int) ≤ 140737488355327 := by have := tot_le l0 (k + 1); have := HL.out; unfold tot at *; omega
      have HS := Aside0.mk hs
      clear hs hr1
      go_wp2_with fail
      go_round
      case rel => exact ⟨k + 1, by omega, by go_num, by rw [HS.out]⟩
      case measure => simp [intOf]; omega
    · obtain rfl : k = l0.length := by omega
      have hfull : tot (l0.take l0.length) = tot l0 := by rw [List.take_length]
      rw [hfull] at ht0 ht1
      have HF := Aside0.mk hfull
      clear hfull
      go_wp2_with (first | (go_at_call 116; go_must (refine (grow_byte_calls (tot l0) (by omega) (by omega) _).mono ?_); rintro e w1 ⟨v1, rfl, ho, hb⟩; have HO := Aside0.mk ho; have HB := Aside0.mk hb; clear ho hb))
      go_loopw [6, 27] (fun v i wr => ∃ k : Nat, k ≤ l0.length ∧ i = .int .i64 k ∧ Aside0 (Kd.R (Kd.int .u8) 5 wr w.heap.size (fun _ => True) v (l0.take k).flatten) ∧ Aside0 (Below w.heap.size w wr)) (fun _ i _ => l0.length - (intOf i).toNat)
      case atStart => exact ⟨0, Nat.zero_le _, rfl, by simpa using HO, HB⟩
      case round =>
        obtain ⟨k, hk, rfl, HO, HB⟩ := hrel
        have HR2 := Aside0.mk (Kd.C_below HR.out HB.out)
        by_cases hlt : k < l0.length
        · obtain ⟨ad, A1, c1, rfl, hcell, _, hr1⟩ := at_LL HR2.out k hlt
          have HR3 := Aside0.mk hr1
          have HS := Aside0.mk (flat_snoc l0 k hlt)
          have HX := Aside0.mk (show (l0.take k).flatten.length + (nth l0 k).length < 140737488355328 by have := tot_snoc l0 k hlt; have := tot_le l0 (k + 1); have := HL.out; unfold tot at *; omega)
          clear hr1
          go_wp2_with (first | ((with_reducible refine gate_builtin (b := .append) (xs := #[.tmp 31, .tmp 32]) rfl ?_); go_must (refine Kd.R_append_rows (Kd.int .u8) (w0 := w) w.heap.size rfl (.tmp 31) (.tmp 32) 23 5 (.int .u8 0) 1 rfl Try.underlying23 info5 rfl (by decide) (by omega) _ (l0.take k).flatten (nth l0 k) _ _ _ (fun _ => True) (fun _ => False) rfl rfl HO.out HR3.out (fun _ _ h => h) (fun _ h => h.elim) (fun _ _ => trivial) HB.out HB.out.size (by have := HX.out; omega) ?_); intro v2 w2 ho2 hb2 _ _; rw [← HS.out] at ho2; have HO2 := Aside0.mk ho2; have HB2 := Aside0.mk hb2; clear ho2 hb2))
          go_roundw
          case rel => exact ⟨k + 1, by omega, by go_num, HO2, HB2⟩
          case measure => simp [intOf]; omega
        · obtain rfl : k = l0.length := by omega
          have HF2 := Aside0.mk (show (l0.take l0.length).flatten = l0.flatten by rw [List.take_length])
          go_wp2_with fail
          go_ret
          exact ⟨_, rfl, by rw [← HF2.out]; exact HO.out, HB.out⟩


/-! ### pack_Put: function 66 -/
mutual
def pack_Put.j0 : Nat → List Int → Int → Int → Bool → Option (List Int)
  | 0, _, _, _, _ => none
  | k + 1, x0, x1, x2, x14 => if x14 = true then ((slices_Clone_byte_byte.f x0).bind fun t106 => (some t106)) else (if 0 ≤ x2 then (if (x2 : Int).toNat ≤ 281474976710656 then ((slices_Concat_byte_byte.f (([x0, (List.replicate (x2 : Int).toNat 0)] : List (List Int)))).bind fun t115 => (pack_Put.l0 k x0 x1 t115 x2 0)) else (none)) else (none))
def pack_Put.l0 : Nat → List Int → Int → List Int → Int → Int → Option (List Int)
  | 0, _, _, _, _, _ => none
  | k + 1, x0, x1, x7, x22, x23 => if x23 < x22 then (if 0 ≤ (IntKind.u64.wrap (wrap64 (8 * x23))) then (if 0 ≤ (wrap64 ((x0.length : Int) + x23)) then (if (wrap64 ((x0.length : Int) + x23)) < (x7.length : Int) then (pack_Put.l0 k x0 x1 (x7.set ((wrap64 ((x0.length : Int) + x23)) : Int).toNat ((shr .u64 x1 (IntKind.u64.wrap (wrap64 (8 * x23)))) % 256)) x22 (wrap64 (x23 + 1))) else (none)) else (none)) else (none)) else (some x7)
end
def pack_Put.f (k : Nat) (l0 : List Int) (a1 : Int) (a2 : Int) : Option (List Int) := if a2 < 1 then (pack_Put.j0 k l0 a1 a2 true) else (pack_Put.j0 k l0 a1 a2 (decide (a2 > 8)))
theorem pack_Put.mono_l : ∀ k, (∀ y0 y1 y2 y3, LeO (pack_Put.j0 k y0 y1 y2 y3) (pack_Put.j0 (k + 1) y0 y1 y2 y3)) ∧ (∀ y0 y1 y2 y3 y4, LeO (pack_Put.l0 k y0 y1 y2 y3 y4) (pack_Put.l0 (k + 1) y0 y1 y2 y3 y4))
  | 0 => ⟨fun _ _ _ _ r h => by simp [pack_Put.j0] at h, fun _ _ _ _ _ r h => by simp [pack_Put.l0] at h⟩
  | k + 1 => by
    obtain ⟨ih0, ih1⟩ := pack_Put.mono_l k
    refine ⟨?_, ?_⟩
    · intro y0 y1 y2 y3
      unfold pack_Put.j0
      repeat' first
      | (with_reducible exact ih0 _ _ _ _)
      | (with_reducible exact ih1 _ _ _ _ _)
      | (with_reducible exact LeO.refl _)
      | (with_reducible exact LeO.none _)
      | (with_reducible refine LeO.ite ?_ ?_)
      | (with_reducible refine LeO.bind ?_ (fun _ => ?_))
      | exact ih0 _ _ _ _
      | exact ih1 _ _ _ _ _
      | exact LeO.none _
      | refine LeO.ite ?_ ?_
      | refine LeO.bind ?_ (fun _ => ?_)
    · intro y0 y1 y2 y3 y4
      unfold pack_Put.l0
      repeat' first
      | (with_reducible exact ih0 _ _ _ _)
      | (with_reducible exact ih1 _ _ _ _ _)
      | (with_reducible exact LeO.refl _)
      | (with_reducible exact LeO.none _)
      | (with_reducible refine LeO.ite ?_ ?_)
      | (with_reducible refine LeO.bind ?_ (fun _ => ?_))
      | exact ih0 _ _ _ _
      | exact ih1 _ _ _ _ _
      | exact LeO.none _
      | refine LeO.ite ?_ ?_
      | refine LeO.bind ?_ (fun _ => ?_)
theorem pack_Put.mono : ∀ a0 a1 a2 k, LeO (pack_Put.f k a0 a1 a2) (pack_Put.f (k + 1) a0 a1 a2) := by
  intro a0 a1 a2 k
  obtain ⟨ih0, ih1⟩ := pack_Put.mono_l k
  unfold pack_Put.f
  repeat' first
      | (with_reducible exact ih0 _ _ _ _)
      | (with_reducible exact ih1 _ _ _ _ _)
      | (with_reducible exact LeO.refl _)
      | (with_reducible exact LeO.none _)
      | (with_reducible refine LeO.ite ?_ ?_)
      | (with_reducible refine LeO.bind ?_ (fun _ => ?_))
      | exact ih0 _ _ _ _
      | exact ih1 _ _ _ _ _
      | exact LeO.none _
      | refine LeO.ite ?_ ?_
      | refine LeO.bind ?_ (fun _ => ?_)
set_option maxHeartbeats 8000000 in
set_option maxRecDepth 100000 in
theorem pack_Put.calls (k : Nat) (P0_ : Nat → Prop) (A0 : Option Addr) (c0 : Nat) (l0 : List Int) (a1 : Int) (a2 : Int) (r : List Int) (w : World) (hs0 : Kd.V (Kd.int .u8) 5 w w.heap.size (fun k_ => P0_ k_) (.slice A0 l0.length c0) l0) (h : pack_Put.f k l0 a1 a2 = some r) :
    Calls Try.prog 66 #[.slice A0 l0.length c0, .int .u64 a1, .int .i64 a2] w fun e w' => ∃ v0_ : Value, e = .returned (v0_) ∧ Kd.R (Kd.int .u8) 5 w' w.heap.size (fun k_ => (w.heap.size ≤ k_)) v0_ r ∧ Below w.heap.size w w' := by
  have HO0 := Aside0.mk (show Kd.V (Kd.int .u8) 5 w w.heap.size (fun k_ => (P0_ k_ ∨ w.heap.size ≤ k_)) (.slice A0 l0.length c0) l0 from Kd.V_mono hs0 (fun k_ hk => .inl hk))
  have HB := Aside0.mk (Below.refl w.heap.size w)
  have H : (if a2 < 1 then (pack_Put.j0 k l0 a1 a2 true) else (pack_Put.j0 k l0 a1 a2 (decide (a2 > 8)))) = some r := h
  clear h
  have HC4 := Aside0.mk H
  clear H
  go_enter Try.func66, Try.ntmps66
  go_upto_region 1 with (fail)
  go_cut [14] (fun v14 wc => ∃ (kq : Nat) (x14_3 : Bool), v14 = .bool x14_3 ∧ Aside0 (pack_Put.j0 kq l0 a1 a2 x14_3 = some r) ∧ Aside0 (kq ≤ k) ∧ Aside0 (Kd.V (Kd.int .u8) 5 wc w.heap.size (fun k_ => (P0_ k_ ∨ w.heap.size ≤ k_)) (.slice A0 l0.length c0) l0) ∧ Aside0 (Below w.heap.size w wc))
  case first =>
    have H := HC4.out
    clear HC4
    by_cases c5 : a2 < 1
    · rw [if_pos c5] at H
      have c5b0 : decide (a2 < 1) = true := decide_eq_true c5
      clear c5
      (first | rw [c5b0] | (simp only [i64_w, i32_w]; rw [c5b0]) | skip)
      have H' := Aside0.mk H
      clear H
      go_wp2
      go_meet
      case rel => exact ⟨_, (true), (by first | rfl | (simp; done) | (simp [*]; done)), H', ⟨by first | omega | exact Nat.le_refl _⟩, ⟨by (with_reducible repeat (first | apply Kd.V_alloc | apply Kd.V_drewN | apply Kd.V_drew)); exact HO0.out⟩, ⟨by repeat (first | (with_reducible first | exact HB.out | apply below_alloc | apply pw_below_drewN | apply below_drew1) | exact HB.out)⟩⟩
    · rw [if_neg c5] at H
      have c5b0 : decide (a2 < 1) = false := decide_eq_false c5
      clear c5
      (first | rw [c5b0] | (simp only [i64_w, i32_w]; rw [c5b0]) | skip)
      have H' := Aside0.mk H
      clear H
      go_wp2
      go_meet
      case rel => exact ⟨_, (decide (a2 > 8)), (by first | rfl | (simp; done) | (simp [*]; done)), H', ⟨by first | omega | exact Nat.le_refl _⟩, ⟨by (with_reducible repeat (first | apply Kd.V_alloc | apply Kd.V_drewN | apply Kd.V_drew)); exact HO0.out⟩, ⟨by repeat (first | (with_reducible first | exact HB.out | apply below_alloc | apply pw_below_drewN | apply below_drew1) | exact HB.out)⟩⟩
  case rest =>
    clear HC4
    try clear p2
    try clear c5
    try clear c5b0
    obtain ⟨kq, x14_3, rfl, HA, HJ3, HO_0, HB⟩ := hcut
    cases kq with
    | zero => exact absurd HA.out (by simp [pack_Put.j0])
    | succ kj3 =>
      have H := HA.out
      clear HA
      simp only [pack_Put.j0] at H
      by_cases c6 : x14_3 = true
      · subst c6
        have H1 : ((slices_Clone_byte_byte.f l0).bind fun t106 => (some t106)) = some r := by rw [if_pos rfl] at H; exact H
        clear H
        have H := H1
        clear H1
        replace H := Option.bind_eq_some_iff.mp H
        obtain ⟨t106, A70, H⟩ := H
        replace H : (some t106) = some r := H
        have A7 := Aside0.mk A70
        clear A70
        obtain rfl := Option.some.inj H
        go_wp2_with (first | ((with_reducible refine gate_callee (f := 102) rfl ?_); refine goesL_ (some 16) rfl rfl Try.func102 (by kernel_rfl) rfl #[.slice A0 l0.length c0] rfl (by (try simp only [List.map_toArray, List.map_cons, List.map_nil]); first | done | rfl | (simp only [List.length_drop, List.length_take]; rfl)) ?_; (with_reducible refine (slices_Clone_byte_byte.calls _ _ l0 t106 _ ?side1 ?side2 A7.out).mono ?_); (case side1 => repeat (first | exact (Kd.V_reads' HO_0.out).2.2 | (with_reducible refine Kd.C_alloc ?_ _) | (with_reducible refine Kd.C_drewN ?_ _) | (with_reducible refine Kd.C_drew ?_))); (case side2 => exact (Kd.V_reads' HO_0.out).2.1); rintro e w8 ⟨v107, rfl, ho0, hb⟩; refine ⟨_, rfl, ?_⟩; have n0_ := Aside0.mk (Kd.V_elder' (by (with_reducible repeat (first | apply Kd.V_alloc | apply Kd.V_drewN | apply Kd.V_drew)); exact HO_0.out) (Kd.R_base ho0) hb); have n1_ := Aside0.mk (Kd.R_lower (Kd.R_newM (M := fun k_ => (w.heap.size ≤ k_)) ho0 (below_size (by repeat (first | (with_reducible first | exact HB.out | apply below_alloc | apply pw_below_drewN | apply below_drew1) | exact HB.out))) (fun k_ h_ => h_)) (below_size (by repeat (first | (with_reducible first | exact HB.out | apply below_alloc | apply pw_below_drewN | apply below_drew1) | exact HB.out)))); have n2_ := Aside0.mk (below_step (by repeat (first | (with_reducible first | exact HB.out | apply below_alloc | apply pw_below_drewN | apply below_drew1) | exact HB.out)) hb); clear HO_0; clear HB; have HO_0 := n0_; have HO108 := n1_; have HB := n2_; clear n0_ n1_ n2_; (try clear hb); (try clear hb2); (try clear hk); (try clear hi); (try clear ho0)))
        go_ret
        exact ⟨_, by first | rfl | (simp [errW_none, errW_some] <;> rfl) | (simp [*, errW_none, errW_some] <;> rfl), by (with_reducible repeat (first | apply Kd.R_alloc | apply Kd.R_drewN | apply Kd.R_drew)); exact Kd.R_mono HO108.out (fun _ hk => hk.1), by repeat (first | (with_reducible first | exact HB.out | apply below_alloc | apply pw_below_drewN | apply below_drew1) | exact HB.out)⟩
      · replace c6 := Bool.eq_false_iff.mpr c6
        subst c6
        have H1 : (if 0 ≤ a2 then (if (a2 : Int).toNat ≤ 281474976710656 then ((slices_Concat_byte_byte.f (([l0, (List.replicate (a2 : Int).toNat 0)] : List (List Int)))).bind fun t115 => (pack_Put.l0 kj3 l0 a1 t115 a2 0)) else (none)) else (none)) = some r := by rw [if_neg (show ¬ (false = true) by decide)] at H; exact H
        clear H
        have H := H1
        clear H1
        by_cases c9 : 0 ≤ a2
        · rw [if_pos c9] at H
          have c9b0 := eq_true c9
          have c9b1 : decide (0 ≤ a2) = true := decide_eq_true c9
          clear c9
          by_cases c10 : (a2 : Int).toNat ≤ 281474976710656
          · rw [if_pos c10] at H
            have c10b0 := eq_true c10
            have c10b1 : decide ((a2 : Int).toNat ≤ 281474976710656) = true := decide_eq_true c10
            clear c10
            obtain ⟨y109, hy109⟩ : ∃ y_ : List Int, y_ = (List.replicate (a2 : Int).toNat 0) := ⟨_, rfl⟩
            replace H : ((slices_Concat_byte_byte.f (([l0, y109] : List (List Int)))).bind fun t115 => (pack_Put.l0 kj3 l0 a1 t115 a2 0)) = some r := by first | (rw [hy109]; with_reducible exact H) | (have H2_ := (Option.bind_some _ _).symm.trans H; rw [hy109]; with_reducible exact H2_) | (have H2_ := (Option.bind_some _ _).symm.trans H; with_reducible exact H2_) | with_reducible exact H | (rw [hy109]; exact H) | exact H
            have Ny109 := Aside0.mk hy109
            clear hy109
            obtain ⟨y112, hy112⟩ : ∃ y_ : List (List Int), y_ = (([l0, y109] : List (List Int))) := ⟨_, rfl⟩
            replace H : ((slices_Concat_byte_byte.f y112).bind fun t115 => (pack_Put.l0 kj3 l0 a1 t115 a2 0)) = some r := by first | (rw [hy112]; with_reducible exact H) | (have H2_ := (Option.bind_some _ _).symm.trans H; rw [hy112]; with_reducible exact H2_) | (have H2_ := (Option.bind_some _ _).symm.trans H; with_reducible exact H2_) | with_reducible exact H | (rw [hy112]; exact H) | exact H
            have Ny112 := Aside0.mk hy112
            clear hy112
            replace H := Option.bind_eq_some_iff.mp H
            obtain ⟨t115, A110, H⟩ := H
            replace H : (pack_Put.l0 kj3 l0 a1 t115 a2 0) = some r := H
            have A11 := Aside0.mk A110
            clear A110
            have H' := Aside0.mk H
            clear H
            go_wp2_with (first | ((with_reducible refine gate_dst (N := 19) rfl ?_); refine Kd.R_make (Kd.int .u8) _ 5 rfl (N := 19) rfl 23 _ _ rfl a2 rfl rfl Try.underlying23 (.int .u8 0) 1 info5 rfl (by decide) (by omega) 0 (ok := fun _ => True) (okp := fun _ => True) rfl (fun _ hk => hk) trivial (of_decide_eq_true (by first | (with_reducible assumption) | assumption)) (Nat.le_trans (Nat.mul_le_mul_right _ (of_decide_eq_true (by first | (with_reducible assumption) | assumption) : a2.toNat ≤ 281474976710656)) (by omega)) (Below.refl _ _) (Nat.le_refl _) ?_; intro v110 w12 ho13 hb hg_ hnew_; clear hg_ hnew_; (first | rw [← Ny109.out] at ho13 | (simp only [Int.reduceToNat] at ho13; rw [← Ny109.out] at ho13)); have n0_ := Aside0.mk (Kd.V_elder' (by (with_reducible repeat (first | apply Kd.V_alloc | apply Kd.V_drewN | apply Kd.V_drew)); exact HO_0.out) (Kd.R_base ho13) hb); have n1_ := Aside0.mk (Kd.R_lower (Kd.R_newM (M := fun k_ => (w.heap.size ≤ k_)) ho13 (below_size (by repeat (first | (with_reducible first | exact HB.out | apply below_alloc | apply pw_below_drewN | apply below_drew1) | exact HB.out))) (fun k_ h_ => h_)) (below_size (by repeat (first | (with_reducible first | exact HB.out | apply below_alloc | apply pw_below_drewN | apply below_drew1) | exact HB.out)))); have n2_ := Aside0.mk (below_step (by repeat (first | (with_reducible first | exact HB.out | apply below_alloc | apply pw_below_drewN | apply below_drew1) | exact HB.out)) hb); clear HO_0; clear HB; have HO_0 := n0_; have HO111 := n1_; have HB := n2_; clear n0_ n1_ n2_; clear hb ho13; obtain ⟨Ao14, co14, eo14⟩ := Kd.R_slice HO111.out; subst eo14) | ((with_reducible refine gate_dst (N := 20) rfl ?_); refine Kd.N_lit (Kd.slice 5 (Kd.int .u8)) _ 23 ?hg (N' := 20) ?hd (xs := ([l0, y109] : List (List Int))) (inner := [.slice A0 l0.length c0, .slice Ao14 y109.length co14]) (ok := (fun k_ => (P0_ k_ ∨ w.heap.size ≤ k_))) (okp := (fun k_ => (P0_ k_ ∨ w.heap.size ≤ k_))) ?hr ?hp (fun _ hk => hk) ((show ∀ k_, w12.heap.size ≤ k_ → (fun k_ => (P0_ k_ ∨ w.heap.size ≤ k_)) k_ from fun k_ hk => (.inr (Nat.le_trans (below_size (by repeat (first | (with_reducible first | exact HB.out | apply below_alloc | apply pw_below_drewN | apply below_drew1) | exact HB.out))) hk))) _ (Nat.le_refl _)) (Below.refl _ _) (Nat.le_refl _) (by simp) ?_; (case hd => rfl); (case hg => rfl); (case hr => first | (go_simp; done) | (go_simp; rfl)); (case hp => exact (Reps.one (show Kd.FK (Kd.slice 5 (Kd.int .u8)) _ _ l0 [.slice A0 l0.length c0] from (Kd.FK_slice_mk (Kd.V_reads' (Kd.V_mono (ok' := (fun k_ => (P0_ k_ ∨ w.heap.size ≤ k_))) (HO_0.out) (fun k_ hk => hk.1))).2.1 (Kd.V_F (Kd.V_mono (ok' := (fun k_ => (P0_ k_ ∨ w.heap.size ≤ k_))) (HO_0.out) (fun k_ hk => hk.1))))) (Reps.one (show Kd.FK (Kd.slice 5 (Kd.int .u8)) _ _ y109 [.slice Ao14 y109.length co14] from (Kd.FK_slice_mk (Kd.R_reads' (Kd.R_mono (ok' := (fun k_ => (P0_ k_ ∨ w.heap.size ≤ k_))) (HO111.out) (fun k_ hk => (.inr (hk.1))))).2.1 (Kd.R_F (Kd.R_mono (ok' := (fun k_ => (P0_ k_ ∨ w.heap.size ≤ k_))) (HO111.out) (fun k_ hk => (.inr (hk.1))))))) (Reps.none _ _)))); intro v113 w15 ho16 hb hg_ hnew_; clear hg_ hnew_; (first | rw [← Ny112.out] at ho16 | (simp only [Int.reduceToNat] at ho16; rw [← Ny112.out] at ho16)); have n0_ := Aside0.mk (Kd.V_elder' (by (with_reducible repeat (first | apply Kd.V_alloc | apply Kd.V_drewN | apply Kd.V_drew)); exact HO_0.out) (Kd.N_base ho16) hb); have n1_ := Aside0.mk (Kd.N_lower ho16 (below_size (by repeat (first | (with_reducible first | exact HB.out | apply below_alloc | apply pw_below_drewN | apply below_drew1) | exact HB.out)))); have n2_ := Aside0.mk (below_step (by repeat (first | (with_reducible first | exact HB.out | apply below_alloc | apply pw_below_drewN | apply below_drew1) | exact HB.out)) hb); clear HO_0; clear HB; clear HO111; have HO_0 := n0_; have HO114 := n1_; have HB := n2_; clear n0_ n1_ n2_; clear hb ho16; obtain ⟨Ao17, co17, eo17⟩ := Kd.N_slice HO114.out; subst eo17) | ((with_reducible refine gate_callee (f := 103) rfl ?_); refine goesL_ (some 21) rfl rfl Try.func103 (by kernel_rfl) rfl #[.slice Ao17 y112.length co17] rfl (by (try simp only [List.map_toArray, List.map_cons, List.map_nil]); first | done | rfl | (simp only [List.length_drop, List.length_take]; rfl)) ?_; (with_reducible refine (slices_Concat_byte_byte.calls _ _ y112 t115 _ ?side1 ?side2 A11.out).mono ?_); (case side1 => repeat (first | exact (Kd.N_reads' HO114.out).2.2 | (with_reducible refine Kd.C_alloc ?_ _) | (with_reducible refine Kd.C_drewN ?_ _) | (with_reducible refine Kd.C_drew ?_))); (case side2 => exact (Kd.N_reads' HO114.out).2.1); rintro e w18 ⟨v116, rfl, ho0, hb⟩; refine ⟨_, rfl, ?_⟩; have n0_ := Aside0.mk (Kd.V_elder' (by (with_reducible repeat (first | apply Kd.V_alloc | apply Kd.V_drewN | apply Kd.V_drew)); exact HO_0.out) (Kd.R_base ho0) hb); have n1_ := Aside0.mk (Kd.N_elder' (by (with_reducible repeat (first | apply Kd.N_alloc | apply Kd.N_drewN | apply Kd.N_drew)); exact HO114.out) (Kd.R_base ho0) hb); have n2_ := Aside0.mk (Kd.R_lower (Kd.R_newM (M := fun k_ => (w.heap.size ≤ k_)) ho0 (below_size (by repeat (first | (with_reducible first | exact HB.out | apply below_alloc | apply pw_below_drewN | apply below_drew1) | exact HB.out))) (fun k_ h_ => h_)) (below_size (by repeat (first | (with_reducible first | exact HB.out | apply below_alloc | apply pw_below_drewN | apply below_drew1) | exact HB.out)))); have n3_ := Aside0.mk (below_step (by repeat (first | (with_reducible first | exact HB.out | apply below_alloc | apply pw_below_drewN | apply below_drew1) | exact HB.out)) hb); clear HO_0; clear HO114; clear HB; have HO_0 := n0_; have HO114 := n1_; have HO117 := n2_; have HB := n3_; clear n0_ n1_ n2_ n3_; (try clear hb); (try clear hb2); (try clear hk); (try clear hi); (try clear ho0)))
            go_loopg [23] kj3 (fun kq v23 w' => ∃ (x7_2 : List Int) (x23_2 : Int), v23 = .int .i64 x23_2 ∧ Aside0 (pack_Put.l0 kq l0 a1 x7_2 a2 x23_2 = some r) ∧ Aside0 (kq ≤ kj3) ∧ Aside0 (Kd.V (Kd.int .u8) 5 w' w.heap.size (fun k_ => (P0_ k_ ∨ w.heap.size ≤ k_) ∧ some k_ ≠ (v116 : Value).ownBlock) (.slice A0 l0.length c0) l0) ∧ Aside0 (Kd.R (Kd.int .u8) 5 w' w.heap.size (fun k_ => (w.heap.size ≤ k_)) v116 x7_2) ∧ Aside0 (Below w.heap.size w w'))
            case atStart => exact ⟨(t115), (0), (by first | rfl | (simp; done) | (simp [*]; done)), H', ⟨Nat.le_refl _⟩, ⟨by (with_reducible repeat (first | apply Kd.V_alloc | apply Kd.V_drewN | apply Kd.V_drew)); exact Kd.V_mono HO_0.out (fun _ hk => ⟨hk.1.1.1, hk.2⟩)⟩, ⟨by (with_reducible repeat (first | apply Kd.R_alloc | apply Kd.R_drewN | apply Kd.R_drew)); exact Kd.R_mono HO117.out (fun _ hk => hk.1)⟩, ⟨by repeat (first | (with_reducible first | exact HB.out | apply below_alloc | apply pw_below_drewN | apply below_drew1) | exact HB.out)⟩⟩
            case round =>
              clear H'
              try clear c1
              try clear p2
              try clear c5
              try clear c5b0
              try clear c6
              try clear c9
              try clear c9b0
              try clear c9b1
              try clear c10
              try clear c10b0
              try clear c10b1
              try clear p2
              obtain ⟨x7_2, x23_2, rfl, HA, HK2, HO_0, HO_7, HB⟩ := hrel
              cases gk with
              | zero => exact absurd HA.out (by simp [pack_Put.l0])
              | succ k2 =>
                have H := HA.out
                clear HA
                simp only [pack_Put.l0] at H
                by_cases c19 : x23_2 < a2
                · rw [if_pos c19] at H
                  have c19b0 : decide (x23_2 < a2) = true := decide_eq_true c19
                  clear c19
                  obtain ⟨ji20, hji20⟩ : ∃ j_ : Int, (IntKind.u64.wrap (wrap64 (8 * x23_2))) = j_ := ⟨_, rfl⟩
                  replace H : (if 0 ≤ (ji20) then (if 0 ≤ (wrap64 ((l0.length : Int) + x23_2)) then (if (wrap64 ((l0.length : Int) + x23_2)) < (x7_2.length : Int) then (pack_Put.l0 k2 l0 a1 (x7_2.set ((wrap64 ((l0.length : Int) + x23_2)) : Int).toNat ((shr .u64 a1 (ji20)) % 256)) a2 (wrap64 (x23_2 + 1))) else (none)) else (none)) else (none)) = some r := by first | (rw [hji20] at H; exact H) | (simp only [hji20] at H ⊢; exact H)
                  by_cases c21 : 0 ≤ (ji20)
                  · rw [if_pos c21] at H
                    have c21b0 := eq_true c21
                    have c21b1 : decide (0 ≤ (ji20)) = true := decide_eq_true c21
                    clear c21
                    obtain ⟨ji22, hji22⟩ : ∃ j_ : Int, (shr .u64 a1 (ji20)) = j_ := ⟨_, rfl⟩
                    replace H : (if 0 ≤ (wrap64 ((l0.length : Int) + x23_2)) then (if (wrap64 ((l0.length : Int) + x23_2)) < (x7_2.length : Int) then (pack_Put.l0 k2 l0 a1 (x7_2.set ((wrap64 ((l0.length : Int) + x23_2)) : Int).toNat ((ji22) % 256)) a2 (wrap64 (x23_2 + 1))) else (none)) else (none)) = some r := by first | (rw [hji22] at H; exact H) | (simp only [hji22] at H ⊢; exact H)
                    have hji22_ : (a1 / 2 ^ min (ji20).toNat 64) = ji22 := hji22
                    have hji22z : (ji20) ≤ 64 → (a1 / 2 ^ (ji20).toNat) = ji22 := shr_small hji22
                    obtain ⟨ji23, hji23⟩ : ∃ j_ : Int, (wrap64 ((l0.length : Int) + x23_2)) = j_ := ⟨_, rfl⟩
                    replace H : (if 0 ≤ (ji23) then (if (ji23) < (x7_2.length : Int) then (pack_Put.l0 k2 l0 a1 (x7_2.set ((ji23) : Int).toNat ((ji22) % 256)) a2 (wrap64 (x23_2 + 1))) else (none)) else (none)) = some r := by first | (rw [hji23] at H; exact H) | (simp only [hji23] at H ⊢; exact H)
                    have hji23w : (IntKind.i64.wrap ((l0.length : Int) + x23_2)) = ji23 := (i64_w _).trans hji23
                    by_cases c24 : 0 ≤ (ji23)
                    · rw [if_pos c24] at H
                      have c24b0 : decide (0 ≤ (ji23)) = true := decide_eq_true c24
                      clear c24
                      by_cases c25 : (ji23) < (x7_2.length : Int)
                      · rw [if_pos c25] at H
                        have c25b0 : decide ((ji23) < (x7_2.length : Int)) = true := decide_eq_true c25
                        clear c25
                        obtain ⟨y118, hy118⟩ : ∃ y_ : List Int, y_ = (x7_2.set ((ji23) : Int).toNat ((ji22) % 256)) := ⟨_, rfl⟩
                        replace H : (pack_Put.l0 k2 l0 a1 y118 a2 (wrap64 (x23_2 + 1))) = some r := by first | (rw [hy118]; with_reducible exact H) | (have H2_ := (Option.bind_some _ _).symm.trans H; rw [hy118]; with_reducible exact H2_) | (have H2_ := (Option.bind_some _ _).symm.trans H; with_reducible exact H2_) | with_reducible exact H | (rw [hy118]; exact H) | exact H
                        have Ny118 := Aside0.mk hy118
                        clear hy118
                        have H' := Aside0.mk H
                        clear H
                        have p26 : 0 ≤ ((ji23) : Int) := of_decide_eq_true (by first | (with_reducible assumption) | assumption)
                        have q26 : ((ji23) : Int) < ((x7_2.length : Int) : Int) := of_decide_eq_true (by first | (with_reducible assumption) | assumption)
                        obtain ⟨go26, co26, eo26, gb26, gl26, cl26, HG26⟩ := Kd.R_form HO_7.out (by omega)
                        (first | cases eo26 | (injection eo26 with ea_ en_ ec_; (first | subst ea_ | (injection ea_ with ea_; subst ea_)); subst ec_; clear en_))
                        have GB26 := Aside0.mk gb26
                        have GG26 := Aside0.mk HG26
                        clear gb26 gl26 HG26
                        obtain ⟨hx26_0, hf26_0⟩ := Kd.R_celln 0 HO_7.out ((ji23) : Int) p26 q26
                        replace p26 := eq_true p26
                        replace q26 := eq_true q26
                        have HP27 := Kd.R_putg HO_7.out ((ji23) : Int) ((ji22) % 256)
                        go_wp2_with (first | ((with_reducible refine gate_store (t := 5) (p := 37) rfl ?_); refine store_event (t := 5) (p := 37) (v := ?vo_w28) (w1 := (wr.setCell ⟨go26, ((ji23) : Int).toNat, none⟩ (.int .u8 ((ji22) % 256)))) ?hg ?ho ?hn ?hr ?_; (case ho => rfl); (case hg => rfl); (case hn => rfl); (case hr => first | (go_simp; done) | (go_simp; rfl)); intro w28 hw; have hg : wr.grownBy w28 (some go26) := (by rw [hw]; exact HP27.2); have hp_ : Kd.R (Kd.int .u8) 5 w28 w.heap.size (fun k_ => (w.heap.size ≤ k_)) (.slice (some ⟨go26, 0, none⟩) x7_2.length co26) y118 := (by rw [hw, Ny118.out]; exact HP27.1); clear HP27; have n0_ := Aside0.mk (Kd.V_afterv (v := (.slice (some ⟨go26, 0, none⟩) x7_2.length co26)) (v1 := (.slice (some ⟨go26, 0, none⟩) x7_2.length co26)) (ok := (fun k_ => (P0_ k_ ∨ w.heap.size ≤ k_))) (by (with_reducible repeat (first | apply Kd.V_alloc | apply Kd.V_drewN | apply Kd.V_drew)); exact HO_0.out) hg (.inl rfl)); have n1_ := Aside0.mk (hp_); have n2_ := Aside0.mk ((by rw [hw]; exact below_set (HB.out) GB26.out : Below w.heap.size w w28)); clear HO_0; clear HO_7; clear HB; have HO_0 := n0_; have HO_7 := n1_; have HB := n2_; clear n0_ n1_ n2_; clear hg hw hp_))
                        go_roundg k2
                        case measure => have := HJ3.out; have := HK2.out; omega
                        case rel => exact ⟨(y118), (wrap64 (x23_2 + 1)), (by first | rfl | (simp; done) | (simp [*]; done)), H', ⟨by have := HJ3.out; have := HK2.out; omega⟩, ⟨by (with_reducible repeat (first | apply Kd.V_alloc | apply Kd.V_drewN | apply Kd.V_drew)); exact HO_0.out⟩, ⟨by (with_reducible repeat (first | apply Kd.R_alloc | apply Kd.R_drewN | apply Kd.R_drew)); exact HO_7.out⟩, ⟨by repeat (first | (with_reducible first | exact HB.out | apply below_alloc | apply pw_below_drewN | apply below_drew1) | exact HB.out)⟩⟩
                      · rw [if_neg c25] at H
                        exact absurd H (by simp)
                    · rw [if_neg c24] at H
                      exact absurd H (by simp)
                  · rw [if_neg c21] at H
                    exact absurd H (by simp)
                · rw [if_neg c19] at H
                  have c19b0 : decide (x23_2 < a2) = false := decide_eq_false c19
                  clear c19
                  obtain rfl := Option.some.inj H
                  go_wp2
                  go_ret
                  exact ⟨_, by first | rfl | (simp [errW_none, errW_some] <;> rfl) | (simp [*, errW_none, errW_some] <;> rfl), by (with_reducible repeat (first | apply Kd.R_alloc | apply Kd.R_drewN | apply Kd.R_drew)); exact HO_7.out, by repeat (first | (with_reducible first | exact HB.out | apply below_alloc | apply pw_below_drewN | apply below_drew1) | exact HB.out)⟩
          · rw [if_neg c10] at H
            exact absurd H (by simp)
        · rw [if_neg c9] at H
          exact absurd H (by simp)

end Go.Proofs.Ytignifnkjlldpaa.PInodeMaps
