/- Written by a program of this session (xprint.py) out of the translation. What is proved, in the end: the Go law GeomParts answers true at every input, and its arguments read behind the call as before; no condition. -/
import Derived.Test.YtpcdfmfmakahkaaPGeomPartsx0
import Derived.Test.YtpcdfmfmakahkaaPGeomPartsx1
namespace Go.Proofs.Ytpcdfmfmakahkaa.PGeomParts
open Go.RowKit Go.Proofs.YtpcdfmfmakahkaaW.PrintWords Go.Proofs.YtpcdfmfmakahkaaW.PrintLast Go.Proofs.YtpcdfmfmakahkaaW.PrintMore
attribute [local go_sem] max2_int min2_int max_two min_two max_three min_three max_four min_four   -- for this text's walks alone
set_option linter.unusedVariables false
set_option linter.unusedSimpArgs false

/-! ### ashlarlaw04_GeomParts: function 4 -/
mutual
def ashlarlaw04_GeomParts.l0 : Nat → Int → Int → Int → Int → Option (Bool)
  | 0, _, _, _, _ => none
  | k + 1, x3, x4, x16, x17 => if x17 < x16 then ((geom_Fixed.f k x17).bind fun t110 => (if t110 = true then (ashlarlaw04_GeomParts.l0 k x3 (wrap64 (x4 + 1)) x16 (wrap64 (x17 + 1))) else (ashlarlaw04_GeomParts.l0 k x3 x4 x16 (wrap64 (x17 + 1))))) else (ashlarlaw04_GeomParts.l1 k x3 x4 x3 0)
def ashlarlaw04_GeomParts.l1 : Nat → Int → Int → Int → Int → Option (Bool)
  | 0, _, _, _, _ => none
  | k + 1, x3, x4, x25, x26 => if x26 < x25 then ((geom_Desc.f k x26).bind fun t111 => ((geom_Owners.f k x26).bind fun t112 => (if t111 = t112 then (some false) else ((geom_Fixed.f k t111).bind fun t113 => (if t113 = true then ((geom_Fixed.f k t112).bind fun t114 => (if t114 = true then ((geom_Group.f t111).bind fun t115 => (if t115 = x26 then ((geom_Group.f t112).bind fun t116 => (if t116 = x26 then (ashlarlaw04_GeomParts.l1 k x3 x4 x25 (wrap64 (x26 + 1))) else (some false))) else (some false))) else (some false))) else (some false)))))) else ((geom_Groups.f (wrap64 (64 * x3))).bind fun t117 => (if t117 = x3 then ((geom_Open.f (wrap64 (64 * x3))).bind fun t118 => (if (wrap64 (t118 + x4)) = (wrap64 (64 * x3)) then ((geom_Copy.f).bind fun t119 => ((geom_Fixed.f k t119).bind fun t120 => (if t120 = true then ((geom_Fixed.f k 0).bind fun t121 => (if t121 = true then ((geom_Room.f (wrap64 (64 * x3))).bind fun t122 => ((geom_Open.f (wrap64 (64 * x3))).bind fun t123 => (some (t122 == (wrap64 (t123 - 6)))))) else (some false))) else (some false)))) else (some false))) else (some false)))
end
def ashlarlaw04_GeomParts.f (k : Nat) (a0 : Int) : Option (Bool) := (ashlarlaw04_awake.f).bind fun t109 => (if t109 = true then (ashlarlaw04_GeomParts.l0 k (wrap64 (1 + (wrap64 (Int.tmod a0 12)))) 0 (wrap64 (64 * (wrap64 (1 + (wrap64 (Int.tmod a0 12)))))) 0) else (some false))
theorem ashlarlaw04_GeomParts.mono_l : ∀ k, (∀ y0 y1 y2 y3, LeO (ashlarlaw04_GeomParts.l0 k y0 y1 y2 y3) (ashlarlaw04_GeomParts.l0 (k + 1) y0 y1 y2 y3)) ∧ (∀ y0 y1 y2 y3, LeO (ashlarlaw04_GeomParts.l1 k y0 y1 y2 y3) (ashlarlaw04_GeomParts.l1 (k + 1) y0 y1 y2 y3))
  | 0 => ⟨fun _ _ _ _ r h => by simp [ashlarlaw04_GeomParts.l0] at h, fun _ _ _ _ r h => by simp [ashlarlaw04_GeomParts.l1] at h⟩
  | k + 1 => by
    obtain ⟨ih0, ih1⟩ := ashlarlaw04_GeomParts.mono_l k
    refine ⟨?_, ?_⟩
    · intro y0 y1 y2 y3
      unfold ashlarlaw04_GeomParts.l0
      repeat' first
      | (with_reducible exact ih0 _ _ _ _)
      | (with_reducible exact ih1 _ _ _ _)
      | (with_reducible exact geom_Desc.mono _ _)
      | (with_reducible exact geom_Fixed.mono _ _)
      | (with_reducible exact geom_Owners.mono _ _)
      | (with_reducible exact LeO.refl _)
      | (with_reducible exact LeO.none _)
      | (with_reducible refine LeO.ite ?_ ?_)
      | (with_reducible refine LeO.bind ?_ (fun _ => ?_))
      | exact ih0 _ _ _ _
      | exact ih1 _ _ _ _
      | exact geom_Desc.mono _ _
      | exact geom_Fixed.mono _ _
      | exact geom_Owners.mono _ _
      | exact LeO.none _
      | refine LeO.ite ?_ ?_
      | refine LeO.bind ?_ (fun _ => ?_)
    · intro y0 y1 y2 y3
      unfold ashlarlaw04_GeomParts.l1
      repeat' first
      | (with_reducible exact ih0 _ _ _ _)
      | (with_reducible exact ih1 _ _ _ _)
      | (with_reducible exact geom_Desc.mono _ _)
      | (with_reducible exact geom_Fixed.mono _ _)
      | (with_reducible exact geom_Owners.mono _ _)
      | (with_reducible exact LeO.refl _)
      | (with_reducible exact LeO.none _)
      | (with_reducible refine LeO.ite ?_ ?_)
      | (with_reducible refine LeO.bind ?_ (fun _ => ?_))
      | exact ih0 _ _ _ _
      | exact ih1 _ _ _ _
      | exact geom_Desc.mono _ _
      | exact geom_Fixed.mono _ _
      | exact geom_Owners.mono _ _
      | exact LeO.none _
      | refine LeO.ite ?_ ?_
      | refine LeO.bind ?_ (fun _ => ?_)
theorem ashlarlaw04_GeomParts.mono : ∀ a0 k, LeO (ashlarlaw04_GeomParts.f k a0) (ashlarlaw04_GeomParts.f (k + 1) a0) := by
  intro a0 k
  obtain ⟨ih0, ih1⟩ := ashlarlaw04_GeomParts.mono_l k
  unfold ashlarlaw04_GeomParts.f
  repeat' first
      | (with_reducible exact ih0 _ _ _ _)
      | (with_reducible exact ih1 _ _ _ _)
      | (with_reducible exact geom_Desc.mono _ _)
      | (with_reducible exact geom_Fixed.mono _ _)
      | (with_reducible exact geom_Owners.mono _ _)
      | (with_reducible exact LeO.refl _)
      | (with_reducible exact LeO.none _)
      | (with_reducible refine LeO.ite ?_ ?_)
      | (with_reducible refine LeO.bind ?_ (fun _ => ?_))
      | exact ih0 _ _ _ _
      | exact ih1 _ _ _ _
      | exact geom_Desc.mono _ _
      | exact geom_Fixed.mono _ _
      | exact geom_Owners.mono _ _
      | exact LeO.none _
      | refine LeO.ite ?_ ?_
      | refine LeO.bind ?_ (fun _ => ?_)
set_option maxHeartbeats 8000000 in
set_option maxRecDepth 100000 in
theorem ashlarlaw04_GeomParts.calls (k : Nat) (a0 : Int) (r : Bool) (w : World) (h : ashlarlaw04_GeomParts.f k a0 = some r) :
    Calls Try.prog 4 #[.int .u8 a0] w fun e w' => e = .returned (.bool r) ∧ Below w.heap.size w w' := by
  have HB := Aside0.mk (Below.refl w.heap.size w)
  have H : ((ashlarlaw04_awake.f).bind fun t109 => (if t109 = true then (ashlarlaw04_GeomParts.l0 k (wrap64 (1 + (wrap64 (Int.tmod a0 12)))) 0 (wrap64 (64 * (wrap64 (1 + (wrap64 (Int.tmod a0 12)))))) 0) else (some false))) = some r := h
  clear h
  replace H := Option.bind_eq_some_iff.mp H
  obtain ⟨t109, A20, H⟩ := H
  replace H : (if t109 = true then (ashlarlaw04_GeomParts.l0 k (wrap64 (1 + (wrap64 (Int.tmod a0 12)))) 0 (wrap64 (64 * (wrap64 (1 + (wrap64 (Int.tmod a0 12)))))) 0) else (some false)) = some r := H
  have A2 := Aside0.mk A20
  clear A20
  by_cases c3 : t109 = true
  · subst c3
    have H1 : (ashlarlaw04_GeomParts.l0 k (wrap64 (1 + (wrap64 (Int.tmod a0 12)))) 0 (wrap64 (64 * (wrap64 (1 + (wrap64 (Int.tmod a0 12)))))) 0) = some r := by rw [if_pos rfl] at H; exact H
    clear H
    have H := H1
    clear H1
    have H' := Aside0.mk H
    clear H
    go_enter Try.func4, Try.ntmps4
    go_wp2_with (first | ((with_reducible refine gate_callee (f := 11) rfl ?_); refine goesL_ (some 9) rfl rfl Try.func11 (by kernel_rfl) rfl #[] rfl (by (try simp only [List.map_toArray, List.map_cons, List.map_nil]); first | done | rfl | (simp only [List.length_drop, List.length_take]; rfl)) ?_; (with_reducible refine (ashlarlaw04_awake.calls  true _ A2.out).mono ?_); rintro e w' ⟨rfl, ⟨nd, rfl⟩⟩; refine ⟨_, rfl, ?_⟩))
    go_loopg [4, 17] k (fun kq v4 v17 w' => ∃ (x4_1 : Int) (x17_1 : Int), v4 = .int .i64 x4_1 ∧ v17 = .int .i64 x17_1 ∧ Aside0 (ashlarlaw04_GeomParts.l0 kq (wrap64 (1 + (wrap64 (Int.tmod a0 12)))) x4_1 (wrap64 (64 * (wrap64 (1 + (wrap64 (Int.tmod a0 12)))))) x17_1 = some r) ∧ Aside0 (kq ≤ k) ∧ Aside0 (Below w.heap.size w w'))
    case atStart => exact ⟨(0), (0), (by first | rfl | (simp; done) | (simp [*]; done)), (by first | rfl | (simp; done) | (simp [*]; done)), H', ⟨Nat.le_refl _⟩, ⟨by repeat (first | (with_reducible first | exact HB.out | apply below_alloc | apply pw_below_drewN | apply below_drew1) | exact HB.out)⟩⟩
    case round =>
      clear H'
      try clear c1
      try clear p2
      try clear c3
      obtain ⟨x4_1, x17_1, rfl, rfl, HA, HK1, HB⟩ := hrel
      cases gk with
      | zero => exact absurd HA.out (by simp [ashlarlaw04_GeomParts.l0])
      | succ k1 =>
        have H := HA.out
        clear HA
        simp only [ashlarlaw04_GeomParts.l0] at H
        by_cases c4 : x17_1 < (wrap64 (64 * (wrap64 (1 + (wrap64 (Int.tmod a0 12))))))
        · rw [if_pos c4] at H
          have c4b0 : decide (x17_1 < (wrap64 (64 * (wrap64 (1 + (wrap64 (Int.tmod a0 12))))))) = true := decide_eq_true c4
          clear c4
          replace H := Option.bind_eq_some_iff.mp H
          obtain ⟨t110, A50, H⟩ := H
          replace H : (if t110 = true then (ashlarlaw04_GeomParts.l0 k1 (wrap64 (1 + (wrap64 (Int.tmod a0 12)))) (wrap64 (x4_1 + 1)) (wrap64 (64 * (wrap64 (1 + (wrap64 (Int.tmod a0 12)))))) (wrap64 (x17_1 + 1))) else (ashlarlaw04_GeomParts.l0 k1 (wrap64 (1 + (wrap64 (Int.tmod a0 12)))) x4_1 (wrap64 (64 * (wrap64 (1 + (wrap64 (Int.tmod a0 12)))))) (wrap64 (x17_1 + 1)))) = some r := H
          have A5 := Aside0.mk A50
          clear A50
          by_cases c6 : t110 = true
          · subst c6
            have H1 : (ashlarlaw04_GeomParts.l0 k1 (wrap64 (1 + (wrap64 (Int.tmod a0 12)))) (wrap64 (x4_1 + 1)) (wrap64 (64 * (wrap64 (1 + (wrap64 (Int.tmod a0 12)))))) (wrap64 (x17_1 + 1))) = some r := by rw [if_pos rfl] at H; exact H
            clear H
            have H := H1
            clear H1
            have H' := Aside0.mk H
            clear H
            go_wp2_with (first | ((with_reducible refine gate_callee (f := 22) rfl ?_); refine goesL_ (some 21) rfl rfl Try.func22 (by kernel_rfl) rfl #[.int .i64 x17_1] rfl (by (try simp only [List.map_toArray, List.map_cons, List.map_nil]); first | done | rfl | (simp only [List.length_drop, List.length_take]; rfl)) ?_; (with_reducible refine (geom_Fixed.calls k1 x17_1 true _ A5.out).mono ?_); rintro e w' ⟨rfl, ⟨nd, rfl⟩⟩; refine ⟨_, rfl, ?_⟩))
            go_roundg k1
            case measure => have := HK1.out; omega
            case rel => exact ⟨(wrap64 (x4_1 + 1)), (wrap64 (x17_1 + 1)), (by first | rfl | (simp; done) | (simp [*]; done)), (by first | rfl | (simp; done) | (simp [*]; done)), H', ⟨by have := HK1.out; omega⟩, ⟨by repeat (first | (with_reducible first | exact HB.out | apply below_alloc | apply pw_below_drewN | apply below_drew1) | exact HB.out)⟩⟩
          · replace c6 := Bool.eq_false_iff.mpr c6
            subst c6
            have H1 : (ashlarlaw04_GeomParts.l0 k1 (wrap64 (1 + (wrap64 (Int.tmod a0 12)))) x4_1 (wrap64 (64 * (wrap64 (1 + (wrap64 (Int.tmod a0 12)))))) (wrap64 (x17_1 + 1))) = some r := by rw [if_neg (show ¬ (false = true) by decide)] at H; exact H
            clear H
            have H := H1
            clear H1
            have H' := Aside0.mk H
            clear H
            go_wp2_with (first | ((with_reducible refine gate_callee (f := 22) rfl ?_); refine goesL_ (some 21) rfl rfl Try.func22 (by kernel_rfl) rfl #[.int .i64 x17_1] rfl (by (try simp only [List.map_toArray, List.map_cons, List.map_nil]); first | done | rfl | (simp only [List.length_drop, List.length_take]; rfl)) ?_; (with_reducible refine (geom_Fixed.calls k1 x17_1 false _ A5.out).mono ?_); rintro e w' ⟨rfl, ⟨nd, rfl⟩⟩; refine ⟨_, rfl, ?_⟩))
            go_roundg k1
            case measure => have := HK1.out; omega
            case rel => exact ⟨(x4_1), (wrap64 (x17_1 + 1)), (by first | rfl | (simp; done) | (simp [*]; done)), (by first | rfl | (simp; done) | (simp [*]; done)), H', ⟨by have := HK1.out; omega⟩, ⟨by repeat (first | (with_reducible first | exact HB.out | apply below_alloc | apply pw_below_drewN | apply below_drew1) | exact HB.out)⟩⟩
        · rw [if_neg c4] at H
          have c4b0 : decide (x17_1 < (wrap64 (64 * (wrap64 (1 + (wrap64 (Int.tmod a0 12))))))) = false := decide_eq_false c4
          clear c4
          have H' := Aside0.mk H
          clear H
          go_wp2
          go_loopg [26] k1 (fun kq v26 w' => ∃ (x26_2 : Int), v26 = .int .i64 x26_2 ∧ Aside0 (ashlarlaw04_GeomParts.l1 kq (wrap64 (1 + (wrap64 (Int.tmod a0 12)))) x4_1 (wrap64 (1 + (wrap64 (Int.tmod a0 12)))) x26_2 = some r) ∧ Aside0 (kq ≤ k1) ∧ Aside0 (Below w.heap.size w w'))
          case atStart => exact ⟨(0), (by first | rfl | (simp; done) | (simp [*]; done)), H', ⟨Nat.le_refl _⟩, ⟨by repeat (first | (with_reducible first | exact HB.out | apply below_alloc | apply pw_below_drewN | apply below_drew1) | exact HB.out)⟩⟩
          case round =>
            clear H'
            try clear c1
            try clear c2
            try clear p2
            try clear c3
            try clear c4
            try clear c4b0
            try clear c6
            try clear p6
            try clear p2
            obtain ⟨x26_2, rfl, HA, HK2, HB⟩ := hrel
            cases gk with
            | zero => exact absurd HA.out (by simp [ashlarlaw04_GeomParts.l1])
            | succ k2 =>
              have H := HA.out
              clear HA
              simp only [ashlarlaw04_GeomParts.l1] at H
              by_cases c7 : x26_2 < (wrap64 (1 + (wrap64 (Int.tmod a0 12))))
              · rw [if_pos c7] at H
                have c7b0 : decide (x26_2 < (wrap64 (1 + (wrap64 (Int.tmod a0 12))))) = true := decide_eq_true c7
                clear c7
                replace H := Option.bind_eq_some_iff.mp H
                obtain ⟨t111, A80, H⟩ := H
                replace H : ((geom_Owners.f k2 x26_2).bind fun t112 => (if t111 = t112 then (some false) else ((geom_Fixed.f k2 t111).bind fun t113 => (if t113 = true then ((geom_Fixed.f k2 t112).bind fun t114 => (if t114 = true then ((geom_Group.f t111).bind fun t115 => (if t115 = x26_2 then ((geom_Group.f t112).bind fun t116 => (if t116 = x26_2 then (ashlarlaw04_GeomParts.l1 k2 (wrap64 (1 + (wrap64 (Int.tmod a0 12)))) x4_1 (wrap64 (1 + (wrap64 (Int.tmod a0 12)))) (wrap64 (x26_2 + 1))) else (some false))) else (some false))) else (some false))) else (some false))))) = some r := H
                have A8 := Aside0.mk A80
                clear A80
                replace H := Option.bind_eq_some_iff.mp H
                obtain ⟨t112, A90, H⟩ := H
                replace H : (if t111 = t112 then (some false) else ((geom_Fixed.f k2 t111).bind fun t113 => (if t113 = true then ((geom_Fixed.f k2 t112).bind fun t114 => (if t114 = true then ((geom_Group.f t111).bind fun t115 => (if t115 = x26_2 then ((geom_Group.f t112).bind fun t116 => (if t116 = x26_2 then (ashlarlaw04_GeomParts.l1 k2 (wrap64 (1 + (wrap64 (Int.tmod a0 12)))) x4_1 (wrap64 (1 + (wrap64 (Int.tmod a0 12)))) (wrap64 (x26_2 + 1))) else (some false))) else (some false))) else (some false))) else (some false)))) = some r := H
                have A9 := Aside0.mk A90
                clear A90
                by_cases c10 : t111 = t112
                · rw [if_pos c10] at H
                  have c10b0 : (t111 == t112) = true := beq_iff_eq.mpr c10
                  have c10b1 : (t111 != t112) = false := bne_eq_false_iff_eq.mpr c10
                  clear c10
                  obtain rfl := Option.some.inj H
                  go_wp2_with (first | ((with_reducible refine gate_callee (f := 24) rfl ?_); refine goesL_ (some 30) rfl rfl Try.func24 (by kernel_rfl) rfl #[.int .i64 x26_2] rfl (by (try simp only [List.map_toArray, List.map_cons, List.map_nil]); first | done | rfl | (simp only [List.length_drop, List.length_take]; rfl)) ?_; (with_reducible refine (geom_Desc.calls k2 x26_2 t111 _ A8.out).mono ?_); rintro e w' ⟨rfl, ⟨nd, rfl⟩⟩; refine ⟨_, rfl, ?_⟩) | ((with_reducible refine gate_callee (f := 26) rfl ?_); refine goesL_ (some 32) rfl rfl Try.func26 (by kernel_rfl) rfl #[.int .i64 x26_2] rfl (by (try simp only [List.map_toArray, List.map_cons, List.map_nil]); first | done | rfl | (simp only [List.length_drop, List.length_take]; rfl)) ?_; (with_reducible refine (geom_Owners.calls k2 x26_2 t112 _ A9.out).mono ?_); rintro e w' ⟨rfl, ⟨nd, rfl⟩⟩; refine ⟨_, rfl, ?_⟩))
                  go_ret
                  exact ⟨by first | rfl | (simp [errW_none, errW_some] <;> rfl) | (simp [*, errW_none, errW_some] <;> rfl), by repeat (first | (with_reducible first | exact HB.out | apply below_alloc | apply pw_below_drewN | apply below_drew1) | exact HB.out)⟩
                · rw [if_neg c10] at H
                  have c10b0 : (t111 == t112) = false := beq_eq_false_iff_ne.mpr c10
                  have c10b1 : (t111 != t112) = true := bne_iff_ne.mpr c10
                  replace H := Option.bind_eq_some_iff.mp H
                  obtain ⟨t113, A110, H⟩ := H
                  replace H : (if t113 = true then ((geom_Fixed.f k2 t112).bind fun t114 => (if t114 = true then ((geom_Group.f t111).bind fun t115 => (if t115 = x26_2 then ((geom_Group.f t112).bind fun t116 => (if t116 = x26_2 then (ashlarlaw04_GeomParts.l1 k2 (wrap64 (1 + (wrap64 (Int.tmod a0 12)))) x4_1 (wrap64 (1 + (wrap64 (Int.tmod a0 12)))) (wrap64 (x26_2 + 1))) else (some false))) else (some false))) else (some false))) else (some false)) = some r := H
                  have A11 := Aside0.mk A110
                  clear A110
                  by_cases c12 : t113 = true
                  · subst c12
                    have H1 : ((geom_Fixed.f k2 t112).bind fun t114 => (if t114 = true then ((geom_Group.f t111).bind fun t115 => (if t115 = x26_2 then ((geom_Group.f t112).bind fun t116 => (if t116 = x26_2 then (ashlarlaw04_GeomParts.l1 k2 (wrap64 (1 + (wrap64 (Int.tmod a0 12)))) x4_1 (wrap64 (1 + (wrap64 (Int.tmod a0 12)))) (wrap64 (x26_2 + 1))) else (some false))) else (some false))) else (some false))) = some r := by rw [if_pos rfl] at H; exact H
                    clear H
                    have H := H1
                    clear H1
                    replace H := Option.bind_eq_some_iff.mp H
                    obtain ⟨t114, A130, H⟩ := H
                    replace H : (if t114 = true then ((geom_Group.f t111).bind fun t115 => (if t115 = x26_2 then ((geom_Group.f t112).bind fun t116 => (if t116 = x26_2 then (ashlarlaw04_GeomParts.l1 k2 (wrap64 (1 + (wrap64 (Int.tmod a0 12)))) x4_1 (wrap64 (1 + (wrap64 (Int.tmod a0 12)))) (wrap64 (x26_2 + 1))) else (some false))) else (some false))) else (some false)) = some r := H
                    have A13 := Aside0.mk A130
                    clear A130
                    by_cases c14 : t114 = true
                    · subst c14
                      have H1 : ((geom_Group.f t111).bind fun t115 => (if t115 = x26_2 then ((geom_Group.f t112).bind fun t116 => (if t116 = x26_2 then (ashlarlaw04_GeomParts.l1 k2 (wrap64 (1 + (wrap64 (Int.tmod a0 12)))) x4_1 (wrap64 (1 + (wrap64 (Int.tmod a0 12)))) (wrap64 (x26_2 + 1))) else (some false))) else (some false))) = some r := by rw [if_pos rfl] at H; exact H
                      clear H
                      have H := H1
                      clear H1
                      replace H := Option.bind_eq_some_iff.mp H
                      obtain ⟨t115, A150, H⟩ := H
                      replace H : (if t115 = x26_2 then ((geom_Group.f t112).bind fun t116 => (if t116 = x26_2 then (ashlarlaw04_GeomParts.l1 k2 (wrap64 (1 + (wrap64 (Int.tmod a0 12)))) x4_1 (wrap64 (1 + (wrap64 (Int.tmod a0 12)))) (wrap64 (x26_2 + 1))) else (some false))) else (some false)) = some r := H
                      have A15 := Aside0.mk A150
                      clear A150
                      by_cases c16 : t115 = x26_2
                      · rw [if_pos c16] at H
                        have c16b0 : (t115 == x26_2) = true := beq_iff_eq.mpr c16
                        have c16b1 : (t115 != x26_2) = false := bne_eq_false_iff_eq.mpr c16
                        clear c16
                        replace H := Option.bind_eq_some_iff.mp H
                        obtain ⟨t116, A170, H⟩ := H
                        replace H : (if t116 = x26_2 then (ashlarlaw04_GeomParts.l1 k2 (wrap64 (1 + (wrap64 (Int.tmod a0 12)))) x4_1 (wrap64 (1 + (wrap64 (Int.tmod a0 12)))) (wrap64 (x26_2 + 1))) else (some false)) = some r := H
                        have A17 := Aside0.mk A170
                        clear A170
                        by_cases c18 : t116 = x26_2
                        · rw [if_pos c18] at H
                          have c18b0 : (t116 == x26_2) = true := beq_iff_eq.mpr c18
                          have c18b1 : (t116 != x26_2) = false := bne_eq_false_iff_eq.mpr c18
                          clear c18
                          have H' := Aside0.mk H
                          clear H
                          go_wp2_with (first | ((with_reducible refine gate_callee (f := 24) rfl ?_); refine goesL_ (some 30) rfl rfl Try.func24 (by kernel_rfl) rfl #[.int .i64 x26_2] rfl (by (try simp only [List.map_toArray, List.map_cons, List.map_nil]); first | done | rfl | (simp only [List.length_drop, List.length_take]; rfl)) ?_; (with_reducible refine (geom_Desc.calls k2 x26_2 t111 _ A8.out).mono ?_); rintro e w' ⟨rfl, ⟨nd, rfl⟩⟩; refine ⟨_, rfl, ?_⟩) | ((with_reducible refine gate_callee (f := 26) rfl ?_); refine goesL_ (some 32) rfl rfl Try.func26 (by kernel_rfl) rfl #[.int .i64 x26_2] rfl (by (try simp only [List.map_toArray, List.map_cons, List.map_nil]); first | done | rfl | (simp only [List.length_drop, List.length_take]; rfl)) ?_; (with_reducible refine (geom_Owners.calls k2 x26_2 t112 _ A9.out).mono ?_); rintro e w' ⟨rfl, ⟨nd, rfl⟩⟩; refine ⟨_, rfl, ?_⟩) | (go_at_call 22; (with_reducible refine (geom_Fixed.calls k2 t111 true _ A11.out).mono ?_); rintro e w' ⟨rfl, ⟨nd, rfl⟩⟩) | (go_at_call 22; (with_reducible refine (geom_Fixed.calls k2 t112 true _ A13.out).mono ?_); rintro e w' ⟨rfl, ⟨nd, rfl⟩⟩) | (go_at_call 20; (with_reducible refine (geom_Group.calls t111 t115 _ A15.out).mono ?_); rintro e w' ⟨rfl, ⟨nd, rfl⟩⟩) | (go_at_call 20; (with_reducible refine (geom_Group.calls t112 t116 _ A17.out).mono ?_); rintro e w' ⟨rfl, ⟨nd, rfl⟩⟩))
                          go_roundg k2
                          case measure => have := HK1.out; have := HK2.out; omega
                          case rel => exact ⟨(wrap64 (x26_2 + 1)), (by first | rfl | (simp; done) | (simp [*]; done)), H', ⟨by have := HK1.out; have := HK2.out; omega⟩, ⟨by repeat (first | (with_reducible first | exact HB.out | apply below_alloc | apply pw_below_drewN | apply below_drew1) | exact HB.out)⟩⟩
                        · rw [if_neg c18] at H
                          have c18b0 : (t116 == x26_2) = false := beq_eq_false_iff_ne.mpr c18
                          have c18b1 : (t116 != x26_2) = true := bne_iff_ne.mpr c18
                          obtain rfl := Option.some.inj H
                          go_wp2_with (first | ((with_reducible refine gate_callee (f := 24) rfl ?_); refine goesL_ (some 30) rfl rfl Try.func24 (by kernel_rfl) rfl #[.int .i64 x26_2] rfl (by (try simp only [List.map_toArray, List.map_cons, List.map_nil]); first | done | rfl | (simp only [List.length_drop, List.length_take]; rfl)) ?_; (with_reducible refine (geom_Desc.calls k2 x26_2 t111 _ A8.out).mono ?_); rintro e w' ⟨rfl, ⟨nd, rfl⟩⟩; refine ⟨_, rfl, ?_⟩) | ((with_reducible refine gate_callee (f := 26) rfl ?_); refine goesL_ (some 32) rfl rfl Try.func26 (by kernel_rfl) rfl #[.int .i64 x26_2] rfl (by (try simp only [List.map_toArray, List.map_cons, List.map_nil]); first | done | rfl | (simp only [List.length_drop, List.length_take]; rfl)) ?_; (with_reducible refine (geom_Owners.calls k2 x26_2 t112 _ A9.out).mono ?_); rintro e w' ⟨rfl, ⟨nd, rfl⟩⟩; refine ⟨_, rfl, ?_⟩) | (go_at_call 22; (with_reducible refine (geom_Fixed.calls k2 t111 true _ A11.out).mono ?_); rintro e w' ⟨rfl, ⟨nd, rfl⟩⟩) | (go_at_call 22; (with_reducible refine (geom_Fixed.calls k2 t112 true _ A13.out).mono ?_); rintro e w' ⟨rfl, ⟨nd, rfl⟩⟩) | (go_at_call 20; (with_reducible refine (geom_Group.calls t111 t115 _ A15.out).mono ?_); rintro e w' ⟨rfl, ⟨nd, rfl⟩⟩) | (go_at_call 20; (with_reducible refine (geom_Group.calls t112 t116 _ A17.out).mono ?_); rintro e w' ⟨rfl, ⟨nd, rfl⟩⟩))
                          go_ret
                          exact ⟨by first | rfl | (simp [errW_none, errW_some] <;> rfl) | (simp [*, errW_none, errW_some] <;> rfl), by repeat (first | (with_reducible first | exact HB.out | apply below_alloc | apply pw_below_drewN | apply below_drew1) | exact HB.out)⟩
                      · rw [if_neg c16] at H
                        have c16b0 : (t115 == x26_2) = false := beq_eq_false_iff_ne.mpr c16
                        have c16b1 : (t115 != x26_2) = true := bne_iff_ne.mpr c16
                        obtain rfl := Option.some.inj H
                        go_wp2_with (first | ((with_reducible refine gate_callee (f := 24) rfl ?_); refine goesL_ (some 30) rfl rfl Try.func24 (by kernel_rfl) rfl #[.int .i64 x26_2] rfl (by (try simp only [List.map_toArray, List.map_cons, List.map_nil]); first | done | rfl | (simp only [List.length_drop, List.length_take]; rfl)) ?_; (with_reducible refine (geom_Desc.calls k2 x26_2 t111 _ A8.out).mono ?_); rintro e w' ⟨rfl, ⟨nd, rfl⟩⟩; refine ⟨_, rfl, ?_⟩) | ((with_reducible refine gate_callee (f := 26) rfl ?_); refine goesL_ (some 32) rfl rfl Try.func26 (by kernel_rfl) rfl #[.int .i64 x26_2] rfl (by (try simp only [List.map_toArray, List.map_cons, List.map_nil]); first | done | rfl | (simp only [List.length_drop, List.length_take]; rfl)) ?_; (with_reducible refine (geom_Owners.calls k2 x26_2 t112 _ A9.out).mono ?_); rintro e w' ⟨rfl, ⟨nd, rfl⟩⟩; refine ⟨_, rfl, ?_⟩) | (go_at_call 22; (with_reducible refine (geom_Fixed.calls k2 t111 true _ A11.out).mono ?_); rintro e w' ⟨rfl, ⟨nd, rfl⟩⟩) | (go_at_call 22; (with_reducible refine (geom_Fixed.calls k2 t112 true _ A13.out).mono ?_); rintro e w' ⟨rfl, ⟨nd, rfl⟩⟩) | (go_at_call 20; (with_reducible refine (geom_Group.calls t111 t115 _ A15.out).mono ?_); rintro e w' ⟨rfl, ⟨nd, rfl⟩⟩))
                        go_ret
                        exact ⟨by first | rfl | (simp [errW_none, errW_some] <;> rfl) | (simp [*, errW_none, errW_some] <;> rfl), by repeat (first | (with_reducible first | exact HB.out | apply below_alloc | apply pw_below_drewN | apply below_drew1) | exact HB.out)⟩
                    · replace c14 := Bool.eq_false_iff.mpr c14
                      subst c14
                      have H1 : (some false) = some r := by rw [if_neg (show ¬ (false = true) by decide)] at H; exact H
                      clear H
                      have H := H1
                      clear H1
                      obtain rfl := Option.some.inj H
                      go_wp2_with (first | ((with_reducible refine gate_callee (f := 24) rfl ?_); refine goesL_ (some 30) rfl rfl Try.func24 (by kernel_rfl) rfl #[.int .i64 x26_2] rfl (by (try simp only [List.map_toArray, List.map_cons, List.map_nil]); first | done | rfl | (simp only [List.length_drop, List.length_take]; rfl)) ?_; (with_reducible refine (geom_Desc.calls k2 x26_2 t111 _ A8.out).mono ?_); rintro e w' ⟨rfl, ⟨nd, rfl⟩⟩; refine ⟨_, rfl, ?_⟩) | ((with_reducible refine gate_callee (f := 26) rfl ?_); refine goesL_ (some 32) rfl rfl Try.func26 (by kernel_rfl) rfl #[.int .i64 x26_2] rfl (by (try simp only [List.map_toArray, List.map_cons, List.map_nil]); first | done | rfl | (simp only [List.length_drop, List.length_take]; rfl)) ?_; (with_reducible refine (geom_Owners.calls k2 x26_2 t112 _ A9.out).mono ?_); rintro e w' ⟨rfl, ⟨nd, rfl⟩⟩; refine ⟨_, rfl, ?_⟩) | (go_at_call 22; (with_reducible refine (geom_Fixed.calls k2 t111 true _ A11.out).mono ?_); rintro e w' ⟨rfl, ⟨nd, rfl⟩⟩) | (go_at_call 22; (with_reducible refine (geom_Fixed.calls k2 t112 false _ A13.out).mono ?_); rintro e w' ⟨rfl, ⟨nd, rfl⟩⟩))
                      go_ret
                      exact ⟨by first | rfl | (simp [errW_none, errW_some] <;> rfl) | (simp [*, errW_none, errW_some] <;> rfl), by repeat (first | (with_reducible first | exact HB.out | apply below_alloc | apply pw_below_drewN | apply below_drew1) | exact HB.out)⟩
                  · replace c12 := Bool.eq_false_iff.mpr c12
                    subst c12
                    have H1 : (some false) = some r := by rw [if_neg (show ¬ (false = true) by decide)] at H; exact H
                    clear H
                    have H := H1
                    clear H1
                    obtain rfl := Option.some.inj H
                    go_wp2_with (first | ((with_reducible refine gate_callee (f := 24) rfl ?_); refine goesL_ (some 30) rfl rfl Try.func24 (by kernel_rfl) rfl #[.int .i64 x26_2] rfl (by (try simp only [List.map_toArray, List.map_cons, List.map_nil]); first | done | rfl | (simp only [List.length_drop, List.length_take]; rfl)) ?_; (with_reducible refine (geom_Desc.calls k2 x26_2 t111 _ A8.out).mono ?_); rintro e w' ⟨rfl, ⟨nd, rfl⟩⟩; refine ⟨_, rfl, ?_⟩) | ((with_reducible refine gate_callee (f := 26) rfl ?_); refine goesL_ (some 32) rfl rfl Try.func26 (by kernel_rfl) rfl #[.int .i64 x26_2] rfl (by (try simp only [List.map_toArray, List.map_cons, List.map_nil]); first | done | rfl | (simp only [List.length_drop, List.length_take]; rfl)) ?_; (with_reducible refine (geom_Owners.calls k2 x26_2 t112 _ A9.out).mono ?_); rintro e w' ⟨rfl, ⟨nd, rfl⟩⟩; refine ⟨_, rfl, ?_⟩) | (go_at_call 22; (with_reducible refine (geom_Fixed.calls k2 t111 false _ A11.out).mono ?_); rintro e w' ⟨rfl, ⟨nd, rfl⟩⟩))
                    go_ret
                    exact ⟨by first | rfl | (simp [errW_none, errW_some] <;> rfl) | (simp [*, errW_none, errW_some] <;> rfl), by repeat (first | (with_reducible first | exact HB.out | apply below_alloc | apply pw_below_drewN | apply below_drew1) | exact HB.out)⟩
              · rw [if_neg c7] at H
                have c7b0 : decide (x26_2 < (wrap64 (1 + (wrap64 (Int.tmod a0 12))))) = false := decide_eq_false c7
                clear c7
                replace H := Option.bind_eq_some_iff.mp H
                obtain ⟨t117, A190, H⟩ := H
                replace H : (if t117 = (wrap64 (1 + (wrap64 (Int.tmod a0 12)))) then ((geom_Open.f (wrap64 (64 * (wrap64 (1 + (wrap64 (Int.tmod a0 12))))))).bind fun t118 => (if (wrap64 (t118 + x4_1)) = (wrap64 (64 * (wrap64 (1 + (wrap64 (Int.tmod a0 12)))))) then ((geom_Copy.f).bind fun t119 => ((geom_Fixed.f k2 t119).bind fun t120 => (if t120 = true then ((geom_Fixed.f k2 0).bind fun t121 => (if t121 = true then ((geom_Room.f (wrap64 (64 * (wrap64 (1 + (wrap64 (Int.tmod a0 12))))))).bind fun t122 => ((geom_Open.f (wrap64 (64 * (wrap64 (1 + (wrap64 (Int.tmod a0 12))))))).bind fun t123 => (some (t122 == (wrap64 (t123 - 6)))))) else (some false))) else (some false)))) else (some false))) else (some false)) = some r := H
                have A19 := Aside0.mk A190
                clear A190
                by_cases c20 : t117 = (wrap64 (1 + (wrap64 (Int.tmod a0 12))))
                · rw [if_pos c20] at H
                  have c20b0 : (t117 == (wrap64 (1 + (wrap64 (Int.tmod a0 12))))) = true := beq_iff_eq.mpr c20
                  have c20b1 : (t117 != (wrap64 (1 + (wrap64 (Int.tmod a0 12))))) = false := bne_eq_false_iff_eq.mpr c20
                  clear c20
                  replace H := Option.bind_eq_some_iff.mp H
                  obtain ⟨t118, A210, H⟩ := H
                  replace H : (if (wrap64 (t118 + x4_1)) = (wrap64 (64 * (wrap64 (1 + (wrap64 (Int.tmod a0 12)))))) then ((geom_Copy.f).bind fun t119 => ((geom_Fixed.f k2 t119).bind fun t120 => (if t120 = true then ((geom_Fixed.f k2 0).bind fun t121 => (if t121 = true then ((geom_Room.f (wrap64 (64 * (wrap64 (1 + (wrap64 (Int.tmod a0 12))))))).bind fun t122 => ((geom_Open.f (wrap64 (64 * (wrap64 (1 + (wrap64 (Int.tmod a0 12))))))).bind fun t123 => (some (t122 == (wrap64 (t123 - 6)))))) else (some false))) else (some false)))) else (some false)) = some r := H
                  have A21 := Aside0.mk A210
                  clear A210
                  by_cases c22 : (wrap64 (t118 + x4_1)) = (wrap64 (64 * (wrap64 (1 + (wrap64 (Int.tmod a0 12))))))
                  · rw [if_pos c22] at H
                    have c22b0 : ((wrap64 (t118 + x4_1)) == (wrap64 (64 * (wrap64 (1 + (wrap64 (Int.tmod a0 12))))))) = true := beq_iff_eq.mpr c22
                    have c22b1 : ((wrap64 (t118 + x4_1)) != (wrap64 (64 * (wrap64 (1 + (wrap64 (Int.tmod a0 12))))))) = false := bne_eq_false_iff_eq.mpr c22
                    clear c22
                    replace H := Option.bind_eq_some_iff.mp H
                    obtain ⟨t119, A230, H⟩ := H
                    replace H : ((geom_Fixed.f k2 t119).bind fun t120 => (if t120 = true then ((geom_Fixed.f k2 0).bind fun t121 => (if t121 = true then ((geom_Room.f (wrap64 (64 * (wrap64 (1 + (wrap64 (Int.tmod a0 12))))))).bind fun t122 => ((geom_Open.f (wrap64 (64 * (wrap64 (1 + (wrap64 (Int.tmod a0 12))))))).bind fun t123 => (some (t122 == (wrap64 (t123 - 6)))))) else (some false))) else (some false))) = some r := H
                    have A23 := Aside0.mk A230
                    clear A230
                    replace H := Option.bind_eq_some_iff.mp H
                    obtain ⟨t120, A240, H⟩ := H
                    replace H : (if t120 = true then ((geom_Fixed.f k2 0).bind fun t121 => (if t121 = true then ((geom_Room.f (wrap64 (64 * (wrap64 (1 + (wrap64 (Int.tmod a0 12))))))).bind fun t122 => ((geom_Open.f (wrap64 (64 * (wrap64 (1 + (wrap64 (Int.tmod a0 12))))))).bind fun t123 => (some (t122 == (wrap64 (t123 - 6)))))) else (some false))) else (some false)) = some r := H
                    have A24 := Aside0.mk A240
                    clear A240
                    by_cases c25 : t120 = true
                    · subst c25
                      have H1 : ((geom_Fixed.f k2 0).bind fun t121 => (if t121 = true then ((geom_Room.f (wrap64 (64 * (wrap64 (1 + (wrap64 (Int.tmod a0 12))))))).bind fun t122 => ((geom_Open.f (wrap64 (64 * (wrap64 (1 + (wrap64 (Int.tmod a0 12))))))).bind fun t123 => (some (t122 == (wrap64 (t123 - 6)))))) else (some false))) = some r := by rw [if_pos rfl] at H; exact H
                      clear H
                      have H := H1
                      clear H1
                      replace H := Option.bind_eq_some_iff.mp H
                      obtain ⟨t121, A260, H⟩ := H
                      replace H : (if t121 = true then ((geom_Room.f (wrap64 (64 * (wrap64 (1 + (wrap64 (Int.tmod a0 12))))))).bind fun t122 => ((geom_Open.f (wrap64 (64 * (wrap64 (1 + (wrap64 (Int.tmod a0 12))))))).bind fun t123 => (some (t122 == (wrap64 (t123 - 6)))))) else (some false)) = some r := H
                      have A26 := Aside0.mk A260
                      clear A260
                      by_cases c27 : t121 = true
                      · subst c27
                        have H1 : ((geom_Room.f (wrap64 (64 * (wrap64 (1 + (wrap64 (Int.tmod a0 12))))))).bind fun t122 => ((geom_Open.f (wrap64 (64 * (wrap64 (1 + (wrap64 (Int.tmod a0 12))))))).bind fun t123 => (some (t122 == (wrap64 (t123 - 6)))))) = some r := by rw [if_pos rfl] at H; exact H
                        clear H
                        have H := H1
                        clear H1
                        replace H := Option.bind_eq_some_iff.mp H
                        obtain ⟨t122, A280, H⟩ := H
                        replace H : ((geom_Open.f (wrap64 (64 * (wrap64 (1 + (wrap64 (Int.tmod a0 12))))))).bind fun t123 => (some (t122 == (wrap64 (t123 - 6))))) = some r := H
                        have A28 := Aside0.mk A280
                        clear A280
                        replace H := Option.bind_eq_some_iff.mp H
                        obtain ⟨t123, A290, H⟩ := H
                        replace H : (some (t122 == (wrap64 (t123 - 6)))) = some r := H
                        have A29 := Aside0.mk A290
                        clear A290
                        obtain rfl : t118 = t123 := Option.some.inj (A21.out.symm.trans A29.out)
                        obtain rfl := Option.some.inj H
                        go_wp2_with (first | ((with_reducible refine gate_callee (f := 14) rfl ?_); refine goesL_ (some 61) rfl rfl Try.func14 (by kernel_rfl) rfl #[.int .i64 (wrap64 (64 * (wrap64 (1 + (wrap64 (Int.tmod a0 12))))))] rfl (by (try simp only [List.map_toArray, List.map_cons, List.map_nil]); first | done | rfl | (simp only [List.length_drop, List.length_take]; rfl)) ?_; (with_reducible refine (geom_Groups.calls (wrap64 (64 * (wrap64 (1 + (wrap64 (Int.tmod a0 12)))))) t117 _ A19.out).mono ?_); rintro e w' ⟨rfl, ⟨nd, rfl⟩⟩; refine ⟨_, rfl, ?_⟩) | (go_at_call 16; (with_reducible refine (geom_Open.calls (wrap64 (64 * (wrap64 (1 + (wrap64 (Int.tmod a0 12)))))) t118 _ A21.out).mono ?_); rintro e w' ⟨rfl, ⟨nd, rfl⟩⟩) | (go_at_call 28; (with_reducible refine (geom_Copy.calls  t119 _ A23.out).mono ?_); rintro e w' ⟨rfl, ⟨nd, rfl⟩⟩) | (go_at_call 22; (with_reducible refine (geom_Fixed.calls k2 t119 true _ A24.out).mono ?_); rintro e w' ⟨rfl, ⟨nd, rfl⟩⟩) | (go_at_call 22; (with_reducible refine (geom_Fixed.calls k2 0 true _ A26.out).mono ?_); rintro e w' ⟨rfl, ⟨nd, rfl⟩⟩) | (go_at_call 18; (with_reducible refine (geom_Room.calls (wrap64 (64 * (wrap64 (1 + (wrap64 (Int.tmod a0 12)))))) t122 _ A28.out).mono ?_); rintro e w30 ⟨rfl, hb⟩; have n0_ := Aside0.mk (below_step (by repeat (first | (with_reducible first | exact HB.out | apply below_alloc | apply pw_below_drewN | apply below_drew1) | exact HB.out)) hb); clear HB; have HB := n0_; clear n0_; (try clear hb); (try clear hb2); (try clear hk); (try clear hi)) | (go_at_call 16; (with_reducible refine (geom_Open.calls (wrap64 (64 * (wrap64 (1 + (wrap64 (Int.tmod a0 12)))))) t123 _ A29.out).mono ?_); rintro e w' ⟨rfl, ⟨nd, rfl⟩⟩))
                        go_ret
                        exact ⟨by first | rfl | (simp [errW_none, errW_some] <;> rfl) | (simp [*, errW_none, errW_some] <;> rfl), by repeat (first | (with_reducible first | exact HB.out | apply below_alloc | apply pw_below_drewN | apply below_drew1) | exact HB.out)⟩
                      · replace c27 := Bool.eq_false_iff.mpr c27
                        subst c27
                        have H1 : (some false) = some r := by rw [if_neg (show ¬ (false = true) by decide)] at H; exact H
                        clear H
                        have H := H1
                        clear H1
                        obtain rfl := Option.some.inj H
                        go_wp2_with (first | ((with_reducible refine gate_callee (f := 14) rfl ?_); refine goesL_ (some 61) rfl rfl Try.func14 (by kernel_rfl) rfl #[.int .i64 (wrap64 (64 * (wrap64 (1 + (wrap64 (Int.tmod a0 12))))))] rfl (by (try simp only [List.map_toArray, List.map_cons, List.map_nil]); first | done | rfl | (simp only [List.length_drop, List.length_take]; rfl)) ?_; (with_reducible refine (geom_Groups.calls (wrap64 (64 * (wrap64 (1 + (wrap64 (Int.tmod a0 12)))))) t117 _ A19.out).mono ?_); rintro e w' ⟨rfl, ⟨nd, rfl⟩⟩; refine ⟨_, rfl, ?_⟩) | (go_at_call 16; (with_reducible refine (geom_Open.calls (wrap64 (64 * (wrap64 (1 + (wrap64 (Int.tmod a0 12)))))) t118 _ A21.out).mono ?_); rintro e w' ⟨rfl, ⟨nd, rfl⟩⟩) | (go_at_call 28; (with_reducible refine (geom_Copy.calls  t119 _ A23.out).mono ?_); rintro e w' ⟨rfl, ⟨nd, rfl⟩⟩) | (go_at_call 22; (with_reducible refine (geom_Fixed.calls k2 t119 true _ A24.out).mono ?_); rintro e w' ⟨rfl, ⟨nd, rfl⟩⟩) | (go_at_call 22; (with_reducible refine (geom_Fixed.calls k2 0 false _ A26.out).mono ?_); rintro e w' ⟨rfl, ⟨nd, rfl⟩⟩))
                        go_ret
                        exact ⟨by first | rfl | (simp [errW_none, errW_some] <;> rfl) | (simp [*, errW_none, errW_some] <;> rfl), by repeat (first | (with_reducible first | exact HB.out | apply below_alloc | apply pw_below_drewN | apply below_drew1) | exact HB.out)⟩
                    · replace c25 := Bool.eq_false_iff.mpr c25
                      subst c25
                      have H1 : (some false) = some r := by rw [if_neg (show ¬ (false = true) by decide)] at H; exact H
                      clear H
                      have H := H1
                      clear H1
                      obtain rfl := Option.some.inj H
                      go_wp2_with (first | ((with_reducible refine gate_callee (f := 14) rfl ?_); refine goesL_ (some 61) rfl rfl Try.func14 (by kernel_rfl) rfl #[.int .i64 (wrap64 (64 * (wrap64 (1 + (wrap64 (Int.tmod a0 12))))))] rfl (by (try simp only [List.map_toArray, List.map_cons, List.map_nil]); first | done | rfl | (simp only [List.length_drop, List.length_take]; rfl)) ?_; (with_reducible refine (geom_Groups.calls (wrap64 (64 * (wrap64 (1 + (wrap64 (Int.tmod a0 12)))))) t117 _ A19.out).mono ?_); rintro e w' ⟨rfl, ⟨nd, rfl⟩⟩; refine ⟨_, rfl, ?_⟩) | (go_at_call 16; (with_reducible refine (geom_Open.calls (wrap64 (64 * (wrap64 (1 + (wrap64 (Int.tmod a0 12)))))) t118 _ A21.out).mono ?_); rintro e w' ⟨rfl, ⟨nd, rfl⟩⟩) | (go_at_call 28; (with_reducible refine (geom_Copy.calls  t119 _ A23.out).mono ?_); rintro e w' ⟨rfl, ⟨nd, rfl⟩⟩) | (go_at_call 22; (with_reducible refine (geom_Fixed.calls k2 t119 false _ A24.out).mono ?_); rintro e w' ⟨rfl, ⟨nd, rfl⟩⟩))
                      go_ret
                      exact ⟨by first | rfl | (simp [errW_none, errW_some] <;> rfl) | (simp [*, errW_none, errW_some] <;> rfl), by repeat (first | (with_reducible first | exact HB.out | apply below_alloc | apply pw_below_drewN | apply below_drew1) | exact HB.out)⟩
                  · rw [if_neg c22] at H
                    have c22b0 : ((wrap64 (t118 + x4_1)) == (wrap64 (64 * (wrap64 (1 + (wrap64 (Int.tmod a0 12))))))) = false := beq_eq_false_iff_ne.mpr c22
                    have c22b1 : ((wrap64 (t118 + x4_1)) != (wrap64 (64 * (wrap64 (1 + (wrap64 (Int.tmod a0 12))))))) = true := bne_iff_ne.mpr c22
                    obtain rfl := Option.some.inj H
                    go_wp2_with (first | ((with_reducible refine gate_callee (f := 14) rfl ?_); refine goesL_ (some 61) rfl rfl Try.func14 (by kernel_rfl) rfl #[.int .i64 (wrap64 (64 * (wrap64 (1 + (wrap64 (Int.tmod a0 12))))))] rfl (by (try simp only [List.map_toArray, List.map_cons, List.map_nil]); first | done | rfl | (simp only [List.length_drop, List.length_take]; rfl)) ?_; (with_reducible refine (geom_Groups.calls (wrap64 (64 * (wrap64 (1 + (wrap64 (Int.tmod a0 12)))))) t117 _ A19.out).mono ?_); rintro e w' ⟨rfl, ⟨nd, rfl⟩⟩; refine ⟨_, rfl, ?_⟩) | (go_at_call 16; (with_reducible refine (geom_Open.calls (wrap64 (64 * (wrap64 (1 + (wrap64 (Int.tmod a0 12)))))) t118 _ A21.out).mono ?_); rintro e w' ⟨rfl, ⟨nd, rfl⟩⟩))
                    go_ret
                    exact ⟨by first | rfl | (simp [errW_none, errW_some] <;> rfl) | (simp [*, errW_none, errW_some] <;> rfl), by repeat (first | (with_reducible first | exact HB.out | apply below_alloc | apply pw_below_drewN | apply below_drew1) | exact HB.out)⟩
                · rw [if_neg c20] at H
                  have c20b0 : (t117 == (wrap64 (1 + (wrap64 (Int.tmod a0 12))))) = false := beq_eq_false_iff_ne.mpr c20
                  have c20b1 : (t117 != (wrap64 (1 + (wrap64 (Int.tmod a0 12))))) = true := bne_iff_ne.mpr c20
                  obtain rfl := Option.some.inj H
                  go_wp2_with (first | ((with_reducible refine gate_callee (f := 14) rfl ?_); refine goesL_ (some 61) rfl rfl Try.func14 (by kernel_rfl) rfl #[.int .i64 (wrap64 (64 * (wrap64 (1 + (wrap64 (Int.tmod a0 12))))))] rfl (by (try simp only [List.map_toArray, List.map_cons, List.map_nil]); first | done | rfl | (simp only [List.length_drop, List.length_take]; rfl)) ?_; (with_reducible refine (geom_Groups.calls (wrap64 (64 * (wrap64 (1 + (wrap64 (Int.tmod a0 12)))))) t117 _ A19.out).mono ?_); rintro e w' ⟨rfl, ⟨nd, rfl⟩⟩; refine ⟨_, rfl, ?_⟩))
                  go_ret
                  exact ⟨by first | rfl | (simp [errW_none, errW_some] <;> rfl) | (simp [*, errW_none, errW_some] <;> rfl), by repeat (first | (with_reducible first | exact HB.out | apply below_alloc | apply pw_below_drewN | apply below_drew1) | exact HB.out)⟩
  · replace c3 := Bool.eq_false_iff.mpr c3
    subst c3
    have H1 : (some false) = some r := by rw [if_neg (show ¬ (false = true) by decide)] at H; exact H
    clear H
    have H := H1
    clear H1
    obtain rfl := Option.some.inj H
    go_enter Try.func4, Try.ntmps4
    go_wp2_with (first | ((with_reducible refine gate_callee (f := 11) rfl ?_); refine goesL_ (some 9) rfl rfl Try.func11 (by kernel_rfl) rfl #[] rfl (by (try simp only [List.map_toArray, List.map_cons, List.map_nil]); first | done | rfl | (simp only [List.length_drop, List.length_take]; rfl)) ?_; (with_reducible refine (ashlarlaw04_awake.calls  false _ A2.out).mono ?_); rintro e w' ⟨rfl, ⟨nd, rfl⟩⟩; refine ⟨_, rfl, ?_⟩))
    go_ret
    exact ⟨by first | rfl | (simp [errW_none, errW_some] <;> rfl) | (simp [*, errW_none, errW_some] <;> rfl), by repeat (first | (with_reducible first | exact HB.out | apply below_alloc | apply pw_below_drewN | apply below_drew1) | exact HB.out)⟩

/-- THE ONE PURE STATEMENT of ashlarlaw04_GeomParts: yours. -/
def ashlarlaw04_GeomParts.Pure : Prop := ∀ (a0 : Int), (Lit.int .u8 a0).wf = true → ∃ k, ashlarlaw04_GeomParts.f k a0 = some true
theorem ashlarlaw04_GeomParts.walk (P : ashlarlaw04_GeomParts.Pure) (a0 : Int) (w : World) (w0 : (Lit.int .u8 a0).wf = true) :
    Calls Try.prog 4 #[.int .u8 a0] w fun e w' => e = .returned (.bool true) ∧ Below w.heap.size w w' := by
  obtain ⟨k, h⟩ := P a0 w0
  refine (ashlarlaw04_GeomParts.calls k a0 true w h).mono ?_
  rintro e w' ⟨rfl, hd⟩
  exact ⟨rfl, hd⟩

end Go.Proofs.Ytpcdfmfmakahkaa.PGeomParts
