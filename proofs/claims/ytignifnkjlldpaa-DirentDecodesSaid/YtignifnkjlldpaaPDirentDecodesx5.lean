/- Written by a program of this session (xprint.py) out of the translation. What is proved, in the end: the Go law DirentDecodes answers true at every input, and its arguments read behind the call as before; no condition. -/
import Derived.Test.YtignifnkjlldpaaPDirentDecodesx0
import Derived.Test.YtignifnkjlldpaaPDirentDecodesx4
namespace Go.Proofs.Ytignifnkjlldpaa.PDirentDecodes
open Go.RowKit Go.Proofs.YtignifnkjlldpaaW.PrintWords Go.Proofs.YtignifnkjlldpaaW.PrintLast Go.Proofs.YtignifnkjlldpaaW.PrintMore
attribute [local go_sem] max2_int min2_int max_two min_two max_three min_three max_four min_four   -- for this text's walks alone
set_option linter.unusedVariables false
set_option linter.unusedSimpArgs false

/-! ### ashlarref05_Spelt: function 76, by hand -/
def ashlarref05_Spelt.f (k : Nat) (a0_0 : Int) (a0_1 : ByteArray) : Option (List Int) := (ashlarref01_Put.f k [] (IntKind.u64.wrap a0_0) 2).bind fun y => (if y.length + 1 + a0_1.size ≤ 16 then some ((y ++ [IntKind.u8.wrap (a0_1.size : Int)] ++ bytesOf a0_1) ++ List.replicate (16 - (y.length + 1 + a0_1.size)) 0) else none)
theorem ashlarref05_Spelt.mono : ∀ a0 a1 k, LeO (ashlarref05_Spelt.f k a0 a1) (ashlarref05_Spelt.f (k + 1) a0 a1) := fun a0 a1 k => LeO.bind (ashlarref01_Put.mono _ _ _ _) (fun y => LeO.refl _)
theorem step_append_run {P : Program} {ops : Array Oper} {o : Oper} {a : Act} {Q : Exit → Act → World → Prop} {Kc : Act → World → Prop} {W w1 : World} {v1 : Value} (hw : Region.wanted o (yielded ops a.tmps) = true) (s x : Operand) (t u : TypeId)
    (ho : o.op = .call { callee := .builtin .append, args := #[s, x], argTypes := #[t, u] }) (v y : Value) (hs : a.eval s = v) (hx : a.eval x = y) (hrun : (Builtin.append_ #[t, u] o.type #[v, y]).run P W = .ok v1 w1) (h : Kc (a.put o.dst v1) w1) :
    if Region.wanted o (yielded ops a.tmps) = true then Oper.wp P o a W Kc Q else Kc (a.put o.dst undef) W := by
  rw [if_pos hw]
  unfold Oper.wp execOp
  simp only [ho, resolve, invoke, builtin, Sem.run_bind, Sem.run_pure, Result.andThen_ok, List.map_toArray, List.map_cons, List.map_nil, hs, hx, hrun]
  exact h
def spelt_rt.T : Bool × List (List Nat × List Nat) := (true, [([], []), ([], []), ([1], [1]), ([2], [2]), ([3], [3]), ([4], [4]), ([0, 5], [0, 5]), ([], []), ([7], [7]), ([6, 8, 6], [6, 8]), ([9, 9, 0, 1, 2, 3, 4, 5, 6, 7, 8, 9], [0, 9])])
def spelt_rt.B : List Nat := [0, 0, 2, 6, 14, 30, 63, 0, 128, 511, 1023]
theorem spelt_rt.tab : rtab .any (opsOf Try.f76 2) = spelt_rt.T := by kernel_rfl
theorem spelt_rt.bits : waitsOk spelt_rt.T.2 spelt_rt.B = true := by kernel_rfl
set_option maxHeartbeats 2000000 in
set_option maxRecDepth 100000 in
theorem ashlarref05_Spelt.calls (k : Nat) (a0_0 : Int) (a0_1 : ByteArray) (r : List Int) (w : World) (h : ashlarref05_Spelt.f k a0_0 a0_1 = some r) :
    Calls Try.prog 76 #[.agg #[.int .i64 a0_0, .string a0_1]] w fun e w' => ∃ v0_ : Value, e = .returned (v0_) ∧ Kd.R (Kd.int .u8) 5 w' w.heap.size (fun _ => True) v0_ r ∧ Below w.heap.size w w' := by
  unfold ashlarref05_Spelt.f at h
  obtain ⟨y, hy, h⟩ := Option.bind_eq_some_iff.1 h
  by_cases hle : y.length + 1 + a0_1.size ≤ 16
  · rw [if_pos hle] at h
    have h := Option.some.inj h
    have HRR := Aside0.mk h
    have HY := Aside0.mk hy
    have HLE := Aside0.mk hle
    clear h hy hle
    go_enter Try.func76, Try.ntmps76
    go_upto_region 2 with (first
      | ((with_reducible refine gate_dst (N := 1) rfl ?_); refine box_event ?hg (N := 1) ?hd (cs := #[.int .i64 a0_0, .string a0_1]) (t := 60) ?hr ?_; (case hd => rfl); (case hg => rfl); (case hr => first | (go_simp; done) | (go_simp; rfl)); intro gb hg w1 hbox hb; have HB1 := Aside0.mk hb; have HK1 := Aside0.mk hbox; have hz0 : w1.cell? ⟨gb, 0, none⟩ = some (.int .i64 a0_0) := (blk_cell HK1.out 0).trans rfl; clear hb hbox hg)
      | (go_at_call 45; go_must (refine (ashlarref01_Put.calls k none 0 [] (IntKind.u64.wrap a0_0) 2 y _ (Kd.C_nil _ _) (Nat.le_refl _) HY.out).mono ?_); rintro e w2 ⟨v1, rfl, ho, hb⟩; have HK2 := Aside0.mk (blk_below HK1.out hb); have HY2 := Aside0.mk (Kd.R_lower ho HB1.out.size); have HB2 := Aside0.mk (below_step HB1.out hb); clear ho hb))
    have HKd := Aside0.mk (blk_drew HK2.out)
    have HYd := Aside0.mk (Kd.R_drew HY2.out)
    have HBd := Aside0.mk (below_drew HB2.out)
    have HZ : Aside0 (w2.drew.cell? ⟨gb, 1, none⟩ = some (.string a0_1)) := ⟨(blk_cell HKd.out 1).trans rfl⟩
    clear HK2 HY2 HB2 HK1 HB1
    refine start_ (n := 11) (S := fun w' => w'.cell? ⟨gb, 1, none⟩ = some (.string a0_1)) (ds := []) #[false, false, false, false, false, false, false, false, false, false, false] (by kernel_rfl) rfl rfl (HZ.out) (fun hHeld => ?_); refine with_tabW spelt_rt.tab spelt_rt.bits (fun HT_ HW_ => ?_)
    refine pure_ (i := 0) (N := some 8) (v := ?_) (a' := ?_) #[true, false, false, false, false, false, false, false, false, false, false] rfl rfl (any_of HT_.out (by kernel_rfl)) (fun _ _ _ h => h) (Or.inl ⟨by rfl, ?_⟩) ?_ ?_
    rotate_left
    · intro w'
      go_simp; first | done | with_reducible rfl
    rotate_left
    · simp only [Act.put, List.setIfInBounds_toArray, List.set_cons_zero, List.set_cons_succ, i64_w, i32_w]
      rfl
    refine pure_ (i := 1) (N := some 9) (v := ?_) (a' := ?_) #[true, true, false, false, false, false, false, false, false, false, false] rfl rfl (any_of HT_.out (by kernel_rfl)) (fun _ _ _ h => h) (Or.inl ⟨by rfl, ?_⟩) ?_ ?_
    rotate_left
    · intro w'
      go_simp; first | done | with_reducible rfl
    rotate_left
    · simp only [Act.put, List.setIfInBounds_toArray, List.set_cons_zero, List.set_cons_succ, i64_w, i32_w]
      rfl
    refine pure_ (i := 7) (N := some 15) (v := ?_) (a' := ?_) #[true, true, false, false, false, false, false, true, false, false, false] rfl rfl (any_of HT_.out (by kernel_rfl)) (fun _ _ _ h => h) (Or.inl ⟨by rfl, ?_⟩) ?_ ?_
    rotate_left
    · intro w'
      go_simp; first | done | with_reducible rfl
    rotate_left
    · simp only [Act.put, List.setIfInBounds_toArray, List.set_cons_zero, List.set_cons_succ, i64_w, i32_w]
      rfl
    refine take_ (i := 2) (N := some 10) (v := ?_) (a' := ?_) #[true, true, true, false, false, false, false, true, false, false, false] rfl rfl (take_ofW HT_.out HW_.out (by kernel_rfl)) (fun _ _ _ h => h) (Or.inl ⟨by rfl, ?_⟩) hHeld ?_ ?_
    rotate_left
    · intro w' hS'
      have hz0 := hS'
      go_simp; first | done | with_reducible rfl
    rotate_left
    · simp only [Act.put, List.setIfInBounds_toArray, List.set_cons_zero, List.set_cons_succ, i64_w, i32_w]
      rfl
    refine pure_ (i := 3) (N := some 11) (v := ?_) (a' := ?_) #[true, true, true, true, false, false, false, true, false, false, false] rfl rfl (any_of HT_.out (by kernel_rfl)) (fun _ _ _ h => h) (Or.inl ⟨by rfl, ?_⟩) ?_ ?_
    rotate_left
    · intro w'
      go_simp; first | done | with_reducible rfl
    rotate_left
    · simp only [Act.put, List.setIfInBounds_toArray, List.set_cons_zero, List.set_cons_succ, i64_w, i32_w]
      rfl
    refine pure_ (i := 4) (N := some 12) (v := ?_) (a' := ?_) #[true, true, true, true, true, false, false, true, false, false, false] rfl rfl (any_of HT_.out (by kernel_rfl)) (fun _ _ _ h => h) (Or.inl ⟨by rfl, ?_⟩) ?_ ?_
    rotate_left
    · intro w'
      go_simp; first | done | with_reducible rfl
    rotate_left
    · simp only [Act.put, List.setIfInBounds_toArray, List.set_cons_zero, List.set_cons_succ, i64_w, i32_w]
      rfl
    refine take_ (i := 8) (N := some 16) (v := ?_) (a' := ?_) #[true, true, true, true, true, false, false, true, true, false, false] rfl rfl (take_ofW HT_.out HW_.out (by kernel_rfl)) (fun _ _ _ h => h) (Or.inl ⟨by rfl, ?_⟩) hHeld ?_ ?_
    rotate_left
    · intro w' hS'
      have hz0 := hS'
      go_simp; first | done | with_reducible rfl
    rotate_left
    · simp only [Act.put, List.setIfInBounds_toArray, List.set_cons_zero, List.set_cons_succ, i64_w, i32_w]
      rfl
    refine one_ (i := 5) (N := some 13) #[true, true, true, true, true, true, false, true, true, false, false] rfl rfl (one_of HT_.out (by kernel_rfl)) (by decide) (fun K hK => ?_)
    refine Kd.R_lit_step (Kd.int .u8) (w0 := w) w.heap.size 5 (by rfl) (N := 13) rfl (xs := [IntKind.u8.wrap (a0_1.size : Int)]) (inner := [.int .u8 (IntKind.u8.wrap (a0_1.size : Int))]) (ok := fun _ => True) (okp := fun _ => True) ?hr5 (Kd.reps_scalar _) (fun _ h => h) trivial HBd.out HBd.out.size (by simp) ?_
    case hr5 => first | (go_simp; done) | (go_simp; rfl)
    intro v5 w5 ho5 hb5 hg5 _
    have HK5 := Aside0.mk ((blk_grown HKd.out hg5 (by simp)))
    have HO5 := Aside0.mk ho5
    have HY5 := Aside0.mk (Kd.R_grown HYd.out hg5 (fun _ _ => by simp))
    have HB5 := Aside0.mk hb5
    obtain ⟨A5, c5, rfl⟩ := Kd.R_slice ho5
    clear ho5 hb5 hg5
    refine hK.out _ _ ((blk_cell HK5.out 1).trans rfl) (fun hHeld => ?_)
    clear hK K
    refine norm_ (a' := ?_) ?_ ?_
    rotate_left
    · show Act.put _ (some 13) _ = _
      simp only [Act.put, List.setIfInBounds_toArray, List.set_cons_zero, List.set_cons_succ, i64_w, i32_w]
      rfl
    refine one_ (i := 6) (N := some 14) #[true, true, true, true, true, true, true, true, true, false, false] rfl rfl (one_of HT_.out (by kernel_rfl)) (by decide) (fun K hK => ?_)
    refine Kd.R_append_rows_step (Kd.int .u8) (w0 := w) w.heap.size (by rfl) (.tmp 8) (.tmp 13) 23 5 (.int .u8 0) 1 rfl Try.underlying23 info5 rfl (by decide) (by omega) v1 y [IntKind.u8.wrap (a0_1.size : Int)] A5 1 c5 (fun _ => True) (fun _ => False) rfl rfl HY5.out (Kd.R_reads' HO5.out).2.2 (fun _ _ h => h) (fun _ h => h.elim) (fun _ _ => trivial) HB5.out HB5.out.size (by have := HLE.out; omega) ?_
    intro v6 w6 ho6 hb6 hg6 _
    have HK6 := Aside0.mk (blk_grown HK5.out hg6 (Kd.R_ne HY5.out HK5.out (by decide)))
    have HO6 := Aside0.mk ho6
    have HB6 := Aside0.mk hb6
    clear ho6 hb6 hg6
    refine hK.out _ _ ((blk_cell HK6.out 1).trans rfl) (fun hHeld => ?_)
    clear hK K
    refine norm_ (a' := ?_) ?_ ?_
    rotate_left
    · show Act.put _ (some 14) _ = _
      simp only [Act.put, List.setIfInBounds_toArray, List.set_cons_zero, List.set_cons_succ, i64_w, i32_w]
      rfl
    refine one_ (i := 9) (N := some 17) #[true, true, true, true, true, true, true, true, true, true, false] rfl rfl (one_of HT_.out (by kernel_rfl)) (by decide) (fun K hK => ?_)
    obtain ⟨i5, hi5, hzz⟩ := Option.map_eq_some_iff.1 info5
    simp only [Prod.mk.injEq] at hzz
    have hOw := Kd.own_of_R HO6.out
    obtain ⟨v7, w7, hr7, ho7, hg7, _⟩ := Lib.run_append_own_string (P := Try.prog) w6 w.heap.size 23 9 23 5 i5 Try.underlying23 Try.underlying9 hi5 hzz.1 hzz.2.1 hzz.2.2 v6 _ _ hOw a0_1 (by simp only [maxLen, List.length_append, List.length_singleton]; have := HLE.out; omega) (by simp only [List.length_append, List.length_singleton]; have := HLE.out; omega) HB6.out.size
    refine step_append_run (by rfl) (.tmp 14) (.tmp 16) 23 9 rfl v6 (.string a0_1) rfl rfl hr7 ?_
    have HK7 := Aside0.mk (blk_grown HK6.out hg7 (Kd.R_ne HO6.out HK6.out (by decide)))
    have HO7 := Aside0.mk ho7
    have HB7 := Aside0.mk (HB6.out.grown hg7 HB6.out.size (fun k hk => Kd.R_base HO6.out k hk))
    clear hr7 ho7 hg7 hOw hzz hi5
    refine hK.out _ _ ((blk_cell HK7.out 1).trans rfl) (fun hHeld => ?_)
    clear hK K
    refine norm_ (a' := ?_) ?_ ?_
    rotate_left
    · show Act.put _ (some 17) _ = _
      simp only [Act.put, List.setIfInBounds_toArray, List.set_cons_zero, List.set_cons_succ, i64_w, i32_w]
      rfl
    refine pure_ (i := 10) (N := some 3) (v := ?_) (a' := ?_) #[true, true, true, true, true, true, true, true, true, true, true] rfl rfl (any_of HT_.out (by kernel_rfl)) (fun _ _ _ h => h) (Or.inl ⟨by rfl, ?_⟩) ?_ ?_
    rotate_left
    · intro w'
      go_simp; first | done | with_reducible rfl
    rotate_left
    · simp only [Act.put, List.setIfInBounds_toArray, List.set_cons_zero, List.set_cons_succ, i64_w, i32_w]
      rfl
    refine done_ (done_of HT_.out (by kernel_rfl)) ?_
    have hxy : Kd.R (Kd.int .u8) 5 w7 w.heap.size (fun _ => True) v7 (y ++ [IntKind.u8.wrap (a0_1.size : Int)] ++ bytesOf a0_1) := by
      have e1 : nums .u8 (y ++ [IntKind.u8.wrap (a0_1.size : Int)] ++ bytesOf a0_1) = nums .u8 (y ++ [IntKind.u8.wrap (a0_1.size : Int)]) ++ Lib.strCells a0_1 := by
        rw [nums_append]
        congr 1
        simp [nums, bytesOf, Lib.strCells]
      refine Kd.R_of_own ?_ (fun _ _ => trivial)
      have h := HO7.out
      rw [show (y ++ [IntKind.u8.wrap (a0_1.size : Int)] ++ bytesOf a0_1).length = (y ++ [IntKind.u8.wrap (a0_1.size : Int)]).length + a0_1.size by rw [List.length_append, bytesOf_length]]
      rw [show encs (Value.int .u8) (y ++ [IntKind.u8.wrap (a0_1.size : Int)] ++ bytesOf a0_1) = nums .u8 (y ++ [IntKind.u8.wrap (a0_1.size : Int)] ++ bytesOf a0_1) from rfl, e1]
      exact h
    obtain ⟨zs, hzs⟩ : ∃ zs, y ++ [IntKind.u8.wrap (a0_1.size : Int)] ++ bytesOf a0_1 = zs := ⟨_, rfl⟩
    have hzl : zs.length = y.length + 1 + a0_1.size := by rw [← hzs, List.length_append, List.length_append, List.length_singleton, bytesOf_length]
    rw [hzs] at hxy HRR
    rw [← hzl] at HRR HLE
    obtain ⟨A7, c7, rfl⟩ := Kd.R_slice hxy
    have HX := Aside0.mk hxy
    have hle := HLE.out
    have esub : IntKind.i64.wrap (16 - (zs.length : Int)) = 16 - (zs.length : Int) := by rw [i64_w]; unfold wrap64; omega
    obtain ⟨q, hq⟩ : ∃ q : Int, 16 - (zs.length : Int) = q := ⟨_, rfl⟩
    have hq0 : 0 ≤ q := by omega
    have hqn : q.toNat = 16 - zs.length := by omega
    have HQN := Aside0.mk hqn
    have esub2 : IntKind.i64.wrap q = q := by rw [← hq]; exact esub
    clear HT_ HW_ hHeld hxy hzs hzl HO7 HY5 HB5 HK5 HO5 HK6 HO6 HB6 HK7 HKd HYd HBd HZ hqn esub
    go_wp2_with (first
      | ((with_reducible refine gate_builtin (b := .append) (xs := #[.tmp 18, .tmp 21]) rfl ?_); go_must (refine Kd.R_append_zeros (Kd.int .u8) (w0 := w) w.heap.size rfl (.tmp 18) (.tmp 21) 23 3 5 (.int .u8 0) 1 rfl Try.underlying23 Try.underlying3 info5 rfl (by decide) (by omega) (.slice A7 zs.length c7) zs 0 q (fun _ => True) rfl rfl rfl (fun _ _ => trivial) HX.out hq0 HB7.out HB7.out.size (by have := HQN.out; omega) ?_); intro v8 w8 ho8 hb8 _ _; have HO8 := Aside0.mk ho8; have HB8 := Aside0.mk hb8; clear ho8 hb8))
    go_ret
    exact ⟨_, rfl, by have h := HO8.out; rw [HQN.out, HRR.out] at h; exact h, HB8.out⟩
  · rw [if_neg hle] at h; cases h


/-! ### ashlarref05_EncodeDir: function 32 -/
def ashlarref05_EncodeDir.l0 : Nat → List (S60) → List Int → Int → Int → Option (List Int × Int)
  | 0, _, _, _, _ => none
  | k + 1, x0, x4, x10, x11 => if x11 < x10 then (if 0 ≤ x11 then (if x11 < (x0.length : Int) then ((ashlarref05_FormedEntry.f k ((rd_T60 x0 x11).f0) ((rd_T60 x0 x11).f1)).bind fun t180 => (if t180 = true then ((ashlarref05_Spelt.f k ((rd_T60 x0 x11).f0) ((rd_T60 x0 x11).f1)).bind fun t182 => (if x4.length + t182.length < 140737488355328 then (ashlarref05_EncodeDir.l0 k x0 (x4 ++ t182) x10 (wrap64 (x11 + 1))) else (none))) else (some (([] : List Int), 1)))) else (none)) else (none)) else (if 0 ≤ (wrap64 (256 - (x4.length : Int))) then (if x4.length + (wrap64 (256 - (x4.length : Int)) : Int).toNat < 140737488355328 then (some ((x4 ++ List.replicate (wrap64 (256 - (x4.length : Int)) : Int).toNat 0), 0)) else (none)) else (none))
def ashlarref05_EncodeDir.f (k : Nat) (l0 : List (S60)) : Option (List Int × Int) := if (l0.length : Int) > 16 then (some (([] : List Int), 1)) else (ashlarref05_EncodeDir.l0 k l0 ([] : List Int) (l0.length : Int) 0)
theorem ashlarref05_EncodeDir.mono_l : ∀ k, (∀ y0 y1 y2 y3, LeO (ashlarref05_EncodeDir.l0 k y0 y1 y2 y3) (ashlarref05_EncodeDir.l0 (k + 1) y0 y1 y2 y3))
  | 0 => fun _ _ _ _ r h => by simp [ashlarref05_EncodeDir.l0] at h
  | k + 1 => by
    have ih0 := ashlarref05_EncodeDir.mono_l k
    · intro y0 y1 y2 y3
      unfold ashlarref05_EncodeDir.l0
      repeat' first
      | (with_reducible exact ih0 _ _ _ _)
      | (with_reducible exact ashlarref05_FormedEntry.mono _ _ _)
      | (with_reducible exact ashlarref05_Spelt.mono _ _ _)
      | (with_reducible exact LeO.refl _)
      | (with_reducible exact LeO.none _)
      | (with_reducible refine LeO.ite ?_ ?_)
      | (with_reducible refine LeO.bind ?_ (fun _ => ?_))
      | exact ih0 _ _ _ _
      | exact ashlarref05_FormedEntry.mono _ _ _
      | exact ashlarref05_Spelt.mono _ _ _
      | exact LeO.none _
      | refine LeO.ite ?_ ?_
      | refine LeO.bind ?_ (fun _ => ?_)
theorem ashlarref05_EncodeDir.mono : ∀ a0 k, LeO (ashlarref05_EncodeDir.f k a0) (ashlarref05_EncodeDir.f (k + 1) a0) := by
  intro a0 k
  have ih0 := ashlarref05_EncodeDir.mono_l k
  unfold ashlarref05_EncodeDir.f
  repeat' first
      | (with_reducible exact ih0 _ _ _ _)
      | (with_reducible exact ashlarref05_FormedEntry.mono _ _ _)
      | (with_reducible exact ashlarref05_Spelt.mono _ _ _)
      | (with_reducible exact LeO.refl _)
      | (with_reducible exact LeO.none _)
      | (with_reducible refine LeO.ite ?_ ?_)
      | (with_reducible refine LeO.bind ?_ (fun _ => ?_))
      | exact ih0 _ _ _ _
      | exact ashlarref05_FormedEntry.mono _ _ _
      | exact ashlarref05_Spelt.mono _ _ _
      | exact LeO.none _
      | refine LeO.ite ?_ ?_
      | refine LeO.bind ?_ (fun _ => ?_)
set_option maxHeartbeats 8000000 in
set_option maxRecDepth 100000 in
theorem ashlarref05_EncodeDir.calls (k : Nat) (A0 : Option Addr) (c0 : Nat) (l0 : List (S60)) (r1 : List Int) (r2 : Int) (w : World) (hr0 : Kd.C k60 w A0 l0.length l0) (hc0 : l0.length ≤ c0) (h : ashlarref05_EncodeDir.f k l0 = some (r1, r2)) :
    Calls Try.prog 32 #[.slice A0 l0.length c0] w fun e w' => ∃ v0_ : Value, e = .returned (.tuple #[v0_, .int .i64 r2]) ∧ Kd.R (Kd.int .u8) 5 w' w.heap.size (fun _ => True) v0_ r1 ∧ Below w.heap.size w w' := by
  have hu60 := Try.underlying60
  have HR0 := Aside0.mk hr0
  have HC0 := Aside0.mk hc0
  clear hr0 hc0
  have HB := Aside0.mk (Below.refl w.heap.size w)
  have H : (if (l0.length : Int) > 16 then (some (([] : List Int), 1)) else (ashlarref05_EncodeDir.l0 k l0 ([] : List Int) (l0.length : Int) 0)) = some (r1, r2) := h
  clear h
  by_cases c2 : (l0.length : Int) > 16
  · rw [if_pos c2] at H
    have c2b0 : decide (16 < (l0.length : Int)) = true := decide_eq_true c2
    have c2b1 : decide (16 < l0.length) = true := decide_eq_true (by omega)
    clear c2
    simp only [Option.some.injEq, Prod.mk.injEq] at H
    obtain ⟨rfl, rfl⟩ := H
    go_enter Try.func32, Try.ntmps32
    go_wp2
    go_ret2
    exact ⟨_, by first | rfl | (simp [errW_none, errW_some] <;> rfl) | (simp [*, errW_none, errW_some] <;> rfl), by first | exact Kd.R_nil _ _ _ _ _ | exact Kd.N_nil _ _ _ _ _ | exact Kd.V_nil _ _ _ _ _ | exact Kd.Q_nil _ _ _ _ _ | exact Kd.S_nil _ _ _ _ _, by repeat (first | (with_reducible first | exact HB.out | apply below_alloc | apply pw_below_drewN | apply below_drew1) | exact HB.out)⟩
  · rw [if_neg c2] at H
    have c2b0 : decide (16 < (l0.length : Int)) = false := decide_eq_false c2
    have c2b1 : decide (16 < l0.length) = false := decide_eq_false (by omega)
    clear c2
    have H' := Aside0.mk H
    clear H
    go_enter Try.func32, Try.ntmps32
    go_wp2
    go_loopg [4, 11] k (fun kq v4 v11 w' => ∃ (x4_1 : List Int) (x11_1 : Int), v11 = .int .i64 x11_1 ∧ Aside0 (ashlarref05_EncodeDir.l0 kq l0 x4_1 (l0.length : Int) x11_1 = some (r1, r2)) ∧ Aside0 (kq ≤ k) ∧ Aside0 (Kd.R (Kd.int .u8) 5 w' w.heap.size (fun _ => True) v4 x4_1) ∧ Aside0 (Below w.heap.size w w'))
    case atStart => exact ⟨(([] : List Int)), (0), (by first | rfl | (simp; done) | (simp [*]; done)), H', ⟨Nat.le_refl _⟩, ⟨by first | exact Kd.R_nil _ _ _ _ _ | exact Kd.N_nil _ _ _ _ _ | exact Kd.V_nil _ _ _ _ _ | exact Kd.Q_nil _ _ _ _ _ | exact Kd.S_nil _ _ _ _ _⟩, ⟨by repeat (first | (with_reducible first | exact HB.out | apply below_alloc | apply pw_below_drewN | apply below_drew1) | exact HB.out)⟩⟩
    case round =>
      clear H'
      try clear c2
      try clear c2b0
      try clear c2b1
      try clear p2
      obtain ⟨x4_1, x11_1, rfl, HA, HK1, HO_4, HB⟩ := hrel
      cases gk with
      | zero => exact absurd HA.out (by simp [ashlarref05_EncodeDir.l0])
      | succ k1 =>
        have H := HA.out
        clear HA
        simp only [ashlarref05_EncodeDir.l0] at H
        by_cases c3 : x11_1 < (l0.length : Int)
        · rw [if_pos c3] at H
          have c3b0 : decide (x11_1 < (l0.length : Int)) = true := decide_eq_true c3
          clear c3
          by_cases c4 : 0 ≤ x11_1
          · rw [if_pos c4] at H
            have c4b0 : decide (0 ≤ x11_1) = true := decide_eq_true c4
            clear c4
            by_cases c5 : x11_1 < (l0.length : Int)
            · rw [if_pos c5] at H
              have c5b0 : decide (x11_1 < (l0.length : Int)) = true := decide_eq_true c5
              clear c5
              replace H := Option.bind_eq_some_iff.mp H
              obtain ⟨t180, A60, H⟩ := H
              replace H : (if t180 = true then ((ashlarref05_Spelt.f k1 ((rd_T60 l0 x11_1).f0) ((rd_T60 l0 x11_1).f1)).bind fun t182 => (if x4_1.length + t182.length < 140737488355328 then (ashlarref05_EncodeDir.l0 k1 l0 (x4_1 ++ t182) (l0.length : Int) (wrap64 (x11_1 + 1))) else (none))) else (some (([] : List Int), 1))) = some (r1, r2) := H
              have A6 := Aside0.mk A60
              clear A60
              by_cases c7 : t180 = true
              · subst c7
                have H1 : ((ashlarref05_Spelt.f k1 ((rd_T60 l0 x11_1).f0) ((rd_T60 l0 x11_1).f1)).bind fun t182 => (if x4_1.length + t182.length < 140737488355328 then (ashlarref05_EncodeDir.l0 k1 l0 (x4_1 ++ t182) (l0.length : Int) (wrap64 (x11_1 + 1))) else (none))) = some (r1, r2) := by rw [if_pos rfl] at H; exact H
                clear H
                have H := H1
                clear H1
                replace H := Option.bind_eq_some_iff.mp H
                obtain ⟨t182, A80, H⟩ := H
                replace H : (if x4_1.length + t182.length < 140737488355328 then (ashlarref05_EncodeDir.l0 k1 l0 (x4_1 ++ t182) (l0.length : Int) (wrap64 (x11_1 + 1))) else (none)) = some (r1, r2) := H
                have A8 := Aside0.mk A80
                clear A80
                by_cases c9 : x4_1.length + t182.length < 140737488355328
                · rw [if_pos c9] at H
                  have LMc9 := Aside0.mk c9
                  clear c9
                  obtain ⟨y185, hy185⟩ : ∃ y_ : List Int, y_ = (x4_1 ++ t182) := ⟨_, rfl⟩
                  replace H : (ashlarref05_EncodeDir.l0 k1 l0 y185 (l0.length : Int) (wrap64 (x11_1 + 1))) = some (r1, r2) := by first | (rw [hy185]; with_reducible exact H) | (have H2_ := (Option.bind_some _ _).symm.trans H; rw [hy185]; with_reducible exact H2_) | (have H2_ := (Option.bind_some _ _).symm.trans H; with_reducible exact H2_) | with_reducible exact H | (rw [hy185]; exact H) | exact H
                  have Ny185 := Aside0.mk hy185
                  clear hy185
                  have H' := Aside0.mk H
                  clear H
                  have p179 : 0 ≤ (x11_1 : Int) := of_decide_eq_true (by first | (with_reducible assumption) | assumption)
                  have q179 : x11_1 < (l0.length : Int) := of_decide_eq_true (by first | (with_reducible assumption) | assumption)
                  obtain ⟨ad179, e179, hx179_0, hx179_1⟩ := at_T60 HR0.out x11_1 p179 q179
                  cases e179
                  replace hx179_0 := (HB.out.cell (World.block_lt_of_cell? w _ hx179_0)).trans hx179_0
                  replace hx179_1 := (HB.out.cell (World.block_lt_of_cell? w _ hx179_1)).trans hx179_1
                  replace p179 := eq_true p179
                  replace q179 := eq_true q179
                  go_wp2_with (first | ((with_reducible refine gate_callee (f := 34) rfl ?_); refine goesL_ (some 18) rfl rfl Try.func34 (by kernel_rfl) rfl #[.agg #[.int .i64 ((rd_T60 l0 x11_1).f0), .string ((rd_T60 l0 x11_1).f1)]] rfl (by (try simp only [List.map_toArray, List.map_cons, List.map_nil]); first | done | rfl | (simp only [List.length_drop, List.length_take]; rfl)) ?_; (with_reducible refine (ashlarref05_FormedEntry.calls k1 ((rd_T60 l0 x11_1).f0) ((rd_T60 l0 x11_1).f1) true _ A6.out).mono ?_); rintro e w10 ⟨rfl, hb⟩; refine ⟨_, rfl, ?_⟩; have n0_ := Aside0.mk (Kd.R_below (by (with_reducible repeat (first | apply Kd.R_alloc | apply Kd.R_drewN | apply Kd.R_drew)); exact HO_4.out) hb); have n1_ := Aside0.mk (below_step (by repeat (first | (with_reducible first | exact HB.out | apply below_alloc | apply pw_below_drewN | apply below_drew1) | exact HB.out)) hb); clear HO_4; clear HB; have HO_4 := n0_; have HB := n1_; clear n0_ n1_; (try clear hb); (try clear hb2); (try clear hk); (try clear hi); have p181 : 0 ≤ (x11_1 : Int) := of_decide_eq_true (by first | (with_reducible assumption) | assumption); have q181 : x11_1 < (l0.length : Int) := of_decide_eq_true (by first | (with_reducible assumption) | assumption); obtain ⟨ad181, e181, hx181_0, hx181_1⟩ := at_T60 HR0.out x11_1 p181 q181; obtain rfl : ad179 = ad181 := (by injection e181); replace hx181_0 := (HB.out.cell (World.block_lt_of_cell? w _ hx181_0)).trans hx181_0; replace hx181_1 := (HB.out.cell (World.block_lt_of_cell? w _ hx181_1)).trans hx181_1; replace p181 := eq_true p181; replace q181 := eq_true q181) | ((with_reducible refine gate_callee (f := 76) rfl ?_); refine goesL_ (some 25) rfl rfl Try.func76 (by kernel_rfl) rfl #[.agg #[.int .i64 ((rd_T60 l0 x11_1).f0), .string ((rd_T60 l0 x11_1).f1)]] rfl (by (try simp only [List.map_toArray, List.map_cons, List.map_nil]); first | done | rfl | (simp only [List.length_drop, List.length_take]; rfl)) ?_; (with_reducible refine (ashlarref05_Spelt.calls k1 ((rd_T60 l0 x11_1).f0) ((rd_T60 l0 x11_1).f1) t182 _ A8.out).mono ?_); rintro e w11 ⟨v183, rfl, ho0, hb⟩; refine ⟨_, rfl, ?_⟩; have n0_ := Aside0.mk (Kd.R_elder' (by (with_reducible repeat (first | apply Kd.R_alloc | apply Kd.R_drewN | apply Kd.R_drew)); exact HO_4.out) (Kd.R_base ho0) hb); have n1_ := Aside0.mk (Kd.R_lower (Kd.R_new' ho0 (Kd.R_lt (by (with_reducible repeat (first | apply Kd.R_alloc | apply Kd.R_drewN | apply Kd.R_drew)); exact HO_4.out))) (below_size (by repeat (first | (with_reducible first | exact HB.out | apply below_alloc | apply pw_below_drewN | apply below_drew1) | exact HB.out)))); have n2_ := Aside0.mk (below_step (by repeat (first | (with_reducible first | exact HB.out | apply below_alloc | apply pw_below_drewN | apply below_drew1) | exact HB.out)) hb); clear HO_4; clear HB; have HO_4 := n0_; have HO184 := n1_; have HB := n2_; clear n0_ n1_ n2_; (try clear hb); (try clear hb2); (try clear hk); (try clear hi); (try clear ho0); obtain ⟨Ao13, co13, eo13⟩ := Kd.R_slice HO184.out; subst eo13) | ((with_reducible refine gate_builtin (b := .append) (xs := #[.tmp 20, .tmp 25]) rfl ?_); at_builtin; refine Kd.R_append_rows (Kd.int .u8) (w0 := w) w.heap.size rfl (.tmp 20) (.tmp 25) 23 5 (.int .u8 0) 1 rfl Try.underlying23 info5 rfl (by decide) (by omega) u4 x4_1 t182 _ _ _ (fun k_ => some k_ ≠ (.slice Ao13 t182.length co13 : Value).ownBlock) (fun _ => False) rfl rfl ?aO ?aR (fun _ _ h => h) (fun _ h => h.elim) ?aF ?aB ?aS ?aL ?_; (case aR => repeat (first | exact (Kd.R_reads' HO184.out).2.2 | (with_reducible refine Kd.C_alloc ?_ _) | (with_reducible refine Kd.C_drewN ?_ _) | (with_reducible refine Kd.C_drew ?_))); (case aB => exact (by repeat (first | (with_reducible first | exact HB.out | apply below_alloc | apply pw_below_drewN | apply below_drew1) | exact HB.out))); (case aF => exact (fun k_ hk => Kd.fresh' (Kd.R_lt (by (with_reducible repeat (first | apply Kd.R_alloc | apply Kd.R_drewN | apply Kd.R_drew)); exact HO184.out)) k_ hk)); (case aO => exact (by (with_reducible repeat (first | apply Kd.R_alloc | apply Kd.R_drewN | apply Kd.R_drew)); exact Kd.R_mono HO_4.out (fun _ hk => hk.2))); (case aS => exact (below_size (by repeat (first | (with_reducible first | exact HB.out | apply below_alloc | apply pw_below_drewN | apply below_drew1) | exact HB.out)))); (case aL => have := LMc9.out; omega); intro v186 w12 ho hb hg hat; rw [← Ny185.out] at ho; have n0_ := Aside0.mk (Kd.R_after (ok := (fun _ => True)) (by (with_reducible repeat (first | apply Kd.R_alloc | apply Kd.R_drewN | apply Kd.R_drew)); exact HO184.out) hg hat); have n1_ := Aside0.mk (hb); have n2_ := Aside0.mk (ho); clear HO184; clear HB; clear HO_4; have HO184 := n0_; have HB := n1_; have HO187 := n2_; clear n0_ n1_ n2_; clear ho hb hg hat))
                  go_roundg k1
                  case measure => have := HK1.out; omega
                  case rel => exact ⟨(y185), (wrap64 (x11_1 + 1)), (by first | rfl | (simp; done) | (simp [*]; done)), H', ⟨by have := HK1.out; omega⟩, ⟨by (with_reducible repeat (first | apply Kd.R_alloc | apply Kd.R_drewN | apply Kd.R_drew)); exact Kd.R_mono HO187.out (fun _ hk => trivial)⟩, ⟨by repeat (first | (with_reducible first | exact HB.out | apply below_alloc | apply pw_below_drewN | apply below_drew1) | exact HB.out)⟩⟩
                · rw [if_neg c9] at H
                  exact absurd H (by simp)
              · replace c7 := Bool.eq_false_iff.mpr c7
                subst c7
                have H1 : (some (([] : List Int), 1)) = some (r1, r2) := by rw [if_neg (show ¬ (false = true) by decide)] at H; exact H
                clear H
                have H := H1
                clear H1
                simp only [Option.some.injEq, Prod.mk.injEq] at H
                obtain ⟨rfl, rfl⟩ := H
                have p179 : 0 ≤ (x11_1 : Int) := of_decide_eq_true (by first | (with_reducible assumption) | assumption)
                have q179 : x11_1 < (l0.length : Int) := of_decide_eq_true (by first | (with_reducible assumption) | assumption)
                obtain ⟨ad179, e179, hx179_0, hx179_1⟩ := at_T60 HR0.out x11_1 p179 q179
                cases e179
                replace hx179_0 := (HB.out.cell (World.block_lt_of_cell? w _ hx179_0)).trans hx179_0
                replace hx179_1 := (HB.out.cell (World.block_lt_of_cell? w _ hx179_1)).trans hx179_1
                replace p179 := eq_true p179
                replace q179 := eq_true q179
                go_wp2_with (first | ((with_reducible refine gate_callee (f := 34) rfl ?_); refine goesL_ (some 18) rfl rfl Try.func34 (by kernel_rfl) rfl #[.agg #[.int .i64 ((rd_T60 l0 x11_1).f0), .string ((rd_T60 l0 x11_1).f1)]] rfl (by (try simp only [List.map_toArray, List.map_cons, List.map_nil]); first | done | rfl | (simp only [List.length_drop, List.length_take]; rfl)) ?_; (with_reducible refine (ashlarref05_FormedEntry.calls k1 ((rd_T60 l0 x11_1).f0) ((rd_T60 l0 x11_1).f1) false _ A6.out).mono ?_); rintro e w14 ⟨rfl, hb⟩; refine ⟨_, rfl, ?_⟩; have n0_ := Aside0.mk (Kd.R_below (by (with_reducible repeat (first | apply Kd.R_alloc | apply Kd.R_drewN | apply Kd.R_drew)); exact HO_4.out) hb); have n1_ := Aside0.mk (below_step (by repeat (first | (with_reducible first | exact HB.out | apply below_alloc | apply pw_below_drewN | apply below_drew1) | exact HB.out)) hb); clear HO_4; clear HB; have HO_4 := n0_; have HB := n1_; clear n0_ n1_; (try clear hb); (try clear hb2); (try clear hk); (try clear hi)))
                go_ret2
                exact ⟨_, by first | rfl | (simp [errW_none, errW_some] <;> rfl) | (simp [*, errW_none, errW_some] <;> rfl), by first | exact Kd.R_nil _ _ _ _ _ | exact Kd.N_nil _ _ _ _ _ | exact Kd.V_nil _ _ _ _ _ | exact Kd.Q_nil _ _ _ _ _ | exact Kd.S_nil _ _ _ _ _, by repeat (first | (with_reducible first | exact HB.out | apply below_alloc | apply pw_below_drewN | apply below_drew1) | exact HB.out)⟩
            · rw [if_neg c5] at H
              exact absurd H (by simp)
          · rw [if_neg c4] at H
            exact absurd H (by simp)
        · rw [if_neg c3] at H
          have c3b0 : decide (x11_1 < (l0.length : Int)) = false := decide_eq_false c3
          clear c3
          obtain ⟨ji15, hji15⟩ : ∃ j_ : Int, (wrap64 (256 - (x4_1.length : Int))) = j_ := ⟨_, rfl⟩
          replace H : (if 0 ≤ (ji15) then (if x4_1.length + (ji15 : Int).toNat < 140737488355328 then (some ((x4_1 ++ List.replicate (ji15 : Int).toNat 0), 0)) else (none)) else (none)) = some (r1, r2) := by first | (rw [hji15] at H; exact H) | (simp only [hji15] at H ⊢; exact H)
          have hji15w : (IntKind.i64.wrap (256 - (x4_1.length : Int))) = ji15 := (i64_w _).trans hji15
          by_cases c16 : 0 ≤ (ji15)
          · rw [if_pos c16] at H
            have c16b0 := eq_true c16
            have c16b1 : decide (0 ≤ (ji15)) = true := decide_eq_true c16
            clear c16
            by_cases c17 : x4_1.length + (ji15 : Int).toNat < 140737488355328
            · rw [if_pos c17] at H
              have LMc17 := Aside0.mk c17
              clear c17
              obtain ⟨y176, hy176⟩ : ∃ y_ : List Int, y_ = (x4_1 ++ List.replicate (ji15 : Int).toNat 0) := ⟨_, rfl⟩
              replace H : (some (y176, 0)) = some (r1, r2) := by first | (rw [hy176]; with_reducible exact H) | (have H2_ := (Option.bind_some _ _).symm.trans H; rw [hy176]; with_reducible exact H2_) | (have H2_ := (Option.bind_some _ _).symm.trans H; with_reducible exact H2_) | with_reducible exact H | (rw [hy176]; exact H) | exact H
              have Ny176 := Aside0.mk hy176
              clear hy176
              simp only [Option.some.injEq, Prod.mk.injEq] at H
              obtain ⟨rfl, rfl⟩ := H
              obtain ⟨Ao18, co18, eo18⟩ := Kd.R_slice HO_4.out
              subst eo18
              go_wp2_with (first | (at_builtin; refine Kd.R_append_zeros (Kd.int .u8) (w0 := w) w.heap.size rfl (.tmp 28) (.tmp 31) 23 3 5 (.int .u8 0) 1 rfl Try.underlying23 Try.underlying3 info5 rfl (by decide) (by omega) (.slice Ao18 x4_1.length co18) x4_1 0 (ji15 : Int) (fun _ => True) rfl rfl rfl ?aF ?aO (of_decide_eq_true (by first | (with_reducible assumption) | assumption)) ?aB ?aS ?aL ?_; (case aB => exact (by repeat (first | (with_reducible first | exact HB.out | apply below_alloc | apply pw_below_drewN | apply below_drew1) | exact HB.out))); (case aF => exact (fun _ _ => trivial)); (case aO => exact (by (with_reducible repeat (first | apply Kd.R_alloc | apply Kd.R_drewN | apply Kd.R_drew)); exact HO_4.out)); (case aS => exact (below_size (by repeat (first | (with_reducible first | exact HB.out | apply below_alloc | apply pw_below_drewN | apply below_drew1) | exact HB.out)))); (case aL => have := LMc17.out; omega); intro v177 w19 ho hb hg hat; rw [← Ny176.out] at ho; have n0_ := Aside0.mk (hb); have n1_ := Aside0.mk (ho); clear HB; clear HO_4; have HB := n0_; have HO178 := n1_; clear n0_ n1_; clear ho hb hg hat))
              go_ret2
              exact ⟨_, by first | rfl | (simp [errW_none, errW_some] <;> rfl) | (simp only [← hji15]; first | rfl | (simp [errW_none, errW_some] <;> rfl)) | (simp [*, errW_none, errW_some] <;> rfl), by (with_reducible repeat (first | apply Kd.R_alloc | apply Kd.R_drewN | apply Kd.R_drew)); exact HO178.out, by repeat (first | (with_reducible first | exact HB.out | apply below_alloc | apply pw_below_drewN | apply below_drew1) | exact HB.out)⟩
            · rw [if_neg c17] at H
              exact absurd H (by simp)
          · rw [if_neg c16] at H
            exact absurd H (by simp)

/-! ### ashlarref01_Get: function 73 -/
mutual
def ashlarref01_Get.j0 : Nat → List Int → Int → Int → Bool → Option (Int × Bool)
  | 0, _, _, _, _ => none
  | k + 1, x0, x1, x2, x33 => if x33 = true then (some (0, false)) else (ashlarref01_Get.l0 k x0 x1 0 x2 0)
def ashlarref01_Get.l0 : Nat → List Int → Int → Int → Int → Int → Option (Int × Bool)
  | 0, _, _, _, _, _ => none
  | k + 1, x0, x1, x8, x34, x35 => if x35 < x34 then (if 0 ≤ (wrap64 (x1 + x35)) then (if (wrap64 (x1 + x35)) < (x0.length : Int) then (if 0 ≤ (wrap64 (8 * x35)) then (ashlarref01_Get.l0 k x0 x1 (Go.bits .or .u64 x8 (shl .u64 (IntKind.u64.wrap (rd x0 (wrap64 (x1 + x35)))) (wrap64 (8 * x35)))) x34 (wrap64 (x35 + 1))) else (none)) else (none)) else (none)) else (some (x8, true))
end
def ashlarref01_Get.f (k : Nat) (l0 : List Int) (a1 : Int) (a2 : Int) : Option (Int × Bool) := if a2 < 1 then (ashlarref01_Get.j0 k l0 a1 a2 true) else (if a2 > 8 then (ashlarref01_Get.j0 k l0 a1 a2 true) else (if a1 < 0 then (ashlarref01_Get.j0 k l0 a1 a2 true) else (if a1 > (l0.length : Int) then (ashlarref01_Get.j0 k l0 a1 a2 true) else (ashlarref01_Get.j0 k l0 a1 a2 (decide (a2 > (wrap64 ((l0.length : Int) - a1))))))))
theorem ashlarref01_Get.mono_l : ∀ k, (∀ y0 y1 y2 y3, LeO (ashlarref01_Get.j0 k y0 y1 y2 y3) (ashlarref01_Get.j0 (k + 1) y0 y1 y2 y3)) ∧ (∀ y0 y1 y2 y3 y4, LeO (ashlarref01_Get.l0 k y0 y1 y2 y3 y4) (ashlarref01_Get.l0 (k + 1) y0 y1 y2 y3 y4))
  | 0 => ⟨fun _ _ _ _ r h => by simp [ashlarref01_Get.j0] at h, fun _ _ _ _ _ r h => by simp [ashlarref01_Get.l0] at h⟩
  | k + 1 => by
    obtain ⟨ih0, ih1⟩ := ashlarref01_Get.mono_l k
    refine ⟨?_, ?_⟩
    · intro y0 y1 y2 y3
      unfold ashlarref01_Get.j0
      repeat' first
      | (with_reducible exact ih0 _ _ _ _)
      | (with_reducible exact ih1 _ _ _ _ _)
      | (with_reducible exact LeO.refl _)
      | (with_reducible exact LeO.none _)
      | (with_reducible refine LeO.ite ?_ ?_)
      | (with_reducible refine LeO.bind ?_ (fun _ => ?_))
      | exact ih0 _ _ _ _
      | exact ih1 _ _ _ _ _
      | exact LeO.none _
      | refine LeO.ite ?_ ?_
      | refine LeO.bind ?_ (fun _ => ?_)
    · intro y0 y1 y2 y3 y4
      unfold ashlarref01_Get.l0
      repeat' first
      | (with_reducible exact ih0 _ _ _ _)
      | (with_reducible exact ih1 _ _ _ _ _)
      | (with_reducible exact LeO.refl _)
      | (with_reducible exact LeO.none _)
      | (with_reducible refine LeO.ite ?_ ?_)
      | (with_reducible refine LeO.bind ?_ (fun _ => ?_))
      | exact ih0 _ _ _ _
      | exact ih1 _ _ _ _ _
      | exact LeO.none _
      | refine LeO.ite ?_ ?_
      | refine LeO.bind ?_ (fun _ => ?_)
theorem ashlarref01_Get.mono : ∀ a0 a1 a2 k, LeO (ashlarref01_Get.f k a0 a1 a2) (ashlarref01_Get.f (k + 1) a0 a1 a2) := by
  intro a0 a1 a2 k
  obtain ⟨ih0, ih1⟩ := ashlarref01_Get.mono_l k
  unfold ashlarref01_Get.f
  repeat' first
      | (with_reducible exact ih0 _ _ _ _)
      | (with_reducible exact ih1 _ _ _ _ _)
      | (with_reducible exact LeO.refl _)
      | (with_reducible exact LeO.none _)
      | (with_reducible refine LeO.ite ?_ ?_)
      | (with_reducible refine LeO.bind ?_ (fun _ => ?_))
      | exact ih0 _ _ _ _
      | exact ih1 _ _ _ _ _
      | exact LeO.none _
      | refine LeO.ite ?_ ?_
      | refine LeO.bind ?_ (fun _ => ?_)
set_option maxHeartbeats 8000000 in
set_option maxRecDepth 100000 in
theorem ashlarref01_Get.calls (k : Nat) (A0 : Option Addr) (c0 : Nat) (l0 : List Int) (a1 : Int) (a2 : Int) (r1 : Int) (r2 : Bool) (w : World) (hr0 : Kd.C (Kd.int .u8) w A0 l0.length l0) (hc0 : l0.length ≤ c0) (h : ashlarref01_Get.f k l0 a1 a2 = some (r1, r2)) :
    Calls Try.prog 73 #[.slice A0 l0.length c0, .int .i64 a1, .int .i64 a2] w fun e w' => e = .returned (.tuple #[.int .u64 r1, .bool r2]) ∧ Drawn0 w w' := by
  have HR0 := Aside0.mk hr0
  have HC0 := Aside0.mk hc0
  clear hr0 hc0
  have H : (if a2 < 1 then (ashlarref01_Get.j0 k l0 a1 a2 true) else (if a2 > 8 then (ashlarref01_Get.j0 k l0 a1 a2 true) else (if a1 < 0 then (ashlarref01_Get.j0 k l0 a1 a2 true) else (if a1 > (l0.length : Int) then (ashlarref01_Get.j0 k l0 a1 a2 true) else (ashlarref01_Get.j0 k l0 a1 a2 (decide (a2 > (wrap64 ((l0.length : Int) - a1))))))))) = some (r1, r2) := h
  clear h
  have HC4 := Aside0.mk H
  clear H
  go_enter Try.func73, Try.ntmps73
  go_upto_region 1 with (fail)
  go_cut [33] (fun v33 wc => ∃ (kq : Nat) (x33_3 : Bool), v33 = .bool x33_3 ∧ Aside0 (ashlarref01_Get.j0 kq l0 a1 a2 x33_3 = some (r1, r2)) ∧ Aside0 (kq ≤ k) ∧ Drawn0 w wc)
  case first =>
    have H := HC4.out
    clear HC4
    by_cases c5 : a2 < 1
    · rw [if_pos c5] at H
      have c5b0 : decide (a2 < 1) = true := decide_eq_true c5
      clear c5
      (first | rw [c5b0] | (simp only [i64_w, i32_w]; rw [c5b0]) | skip)
      have H' := Aside0.mk H
      clear H
      go_wp2
      go_meet
      case rel => exact ⟨_, (true), (by first | rfl | (simp; done) | (simp [*]; done)), H', ⟨by first | omega | exact Nat.le_refl _⟩, by repeat (first | exact Drawn0.refl _ | apply Drawn0.step)⟩
    · rw [if_neg c5] at H
      have c5b0 : decide (a2 < 1) = false := decide_eq_false c5
      clear c5
      (first | rw [c5b0] | (simp only [i64_w, i32_w]; rw [c5b0]) | skip)
      by_cases c6 : a2 > 8
      · rw [if_pos c6] at H
        have c6b0 : decide (8 < a2) = true := decide_eq_true c6
        clear c6
        have H' := Aside0.mk H
        clear H
        go_wp2
        go_meet
        case rel => exact ⟨_, (true), (by first | rfl | (simp; done) | (simp [*]; done)), H', ⟨by first | omega | exact Nat.le_refl _⟩, by repeat (first | exact Drawn0.refl _ | apply Drawn0.step)⟩
      · rw [if_neg c6] at H
        have c6b0 : decide (8 < a2) = false := decide_eq_false c6
        clear c6
        by_cases c7 : a1 < 0
        · rw [if_pos c7] at H
          have c7b0 : decide (a1 < 0) = true := decide_eq_true c7
          clear c7
          have H' := Aside0.mk H
          clear H
          go_wp2
          go_meet
          case rel => exact ⟨_, (true), (by first | rfl | (simp; done) | (simp [*]; done)), H', ⟨by first | omega | exact Nat.le_refl _⟩, by repeat (first | exact Drawn0.refl _ | apply Drawn0.step)⟩
        · rw [if_neg c7] at H
          have c7b0 : decide (a1 < 0) = false := decide_eq_false c7
          clear c7
          by_cases c8 : a1 > (l0.length : Int)
          · rw [if_pos c8] at H
            have c8b0 : decide ((l0.length : Int) < a1) = true := decide_eq_true c8
            clear c8
            have H' := Aside0.mk H
            clear H
            go_wp2
            go_meet
            case rel => exact ⟨_, (true), (by first | rfl | (simp; done) | (simp [*]; done)), H', ⟨by first | omega | exact Nat.le_refl _⟩, by repeat (first | exact Drawn0.refl _ | apply Drawn0.step)⟩
          · rw [if_neg c8] at H
            have c8b0 : decide ((l0.length : Int) < a1) = false := decide_eq_false c8
            clear c8
            have H' := Aside0.mk H
            clear H
            go_wp2
            go_meet
            case rel => exact ⟨_, (decide (a2 > (wrap64 ((l0.length : Int) - a1)))), (by first | rfl | (simp; done) | (simp [*]; done)), H', ⟨by first | omega | exact Nat.le_refl _⟩, by repeat (first | exact Drawn0.refl _ | apply Drawn0.step)⟩
  case rest =>
    clear HC4
    try clear p2
    try clear c5
    try clear c5b0
    try clear c6
    try clear c6b0
    try clear p6
    try clear c7
    try clear c7b0
    try clear c8
    try clear c8b0
    obtain ⟨kq, x33_3, rfl, HA, HJ3, ⟨mc3, rfl⟩⟩ := hcut
    cases kq with
    | zero => exact absurd HA.out (by simp [ashlarref01_Get.j0])
    | succ kj3 =>
      have H := HA.out
      clear HA
      simp only [ashlarref01_Get.j0] at H
      by_cases c9 : x33_3 = true
      · subst c9
        have H1 : (some (0, false)) = some (r1, r2) := by rw [if_pos rfl] at H; exact H
        clear H
        have H := H1
        clear H1
        simp only [Option.some.injEq, Prod.mk.injEq] at H
        obtain ⟨rfl, rfl⟩ := H
        go_wp2
        go_ret2
        exact ⟨by first | rfl | (simp; done) | (simp [*]; done), by repeat (first | exact Drawn0.refl _ | apply Drawn0.step)⟩
      · replace c9 := Bool.eq_false_iff.mpr c9
        subst c9
        have H1 : (ashlarref01_Get.l0 kj3 l0 a1 0 a2 0) = some (r1, r2) := by rw [if_neg (show ¬ (false = true) by decide)] at H; exact H
        clear H
        have H := H1
        clear H1
        have H' := Aside0.mk H
        clear H
        go_wp2
        go_loopg [8, 35] kj3 (fun kq v8 v35 w' => ∃ (x8_2 : Int) (x35_2 : Int), v8 = .int .u64 x8_2 ∧ v35 = .int .i64 x35_2 ∧ Aside0 (ashlarref01_Get.l0 kq l0 a1 x8_2 a2 x35_2 = some (r1, r2)) ∧ Aside0 (kq ≤ kj3) ∧ Drawn0 w w')
        case atStart => exact ⟨(0), (0), (by first | rfl | (simp; done) | (simp [*]; done)), (by first | rfl | (simp; done) | (simp [*]; done)), H', ⟨Nat.le_refl _⟩, by repeat (first | exact Drawn0.refl _ | apply Drawn0.step)⟩
        case round =>
          clear H'
          try clear p2
          try clear c3
          try clear c5
          try clear c5b0
          try clear c6
          try clear c6b0
          try clear p6
          try clear c7
          try clear c7b0
          try clear c8
          try clear c8b0
          try clear c9
          try clear p2
          try clear p6
          obtain ⟨x8_2, x35_2, rfl, rfl, HA, HK2, ⟨m2, rfl⟩⟩ := hrel
          cases gk with
          | zero => exact absurd HA.out (by simp [ashlarref01_Get.l0])
          | succ k2 =>
            have H := HA.out
            clear HA
            simp only [ashlarref01_Get.l0] at H
            by_cases c10 : x35_2 < a2
            · rw [if_pos c10] at H
              have c10b0 : decide (x35_2 < a2) = true := decide_eq_true c10
              clear c10
              obtain ⟨ji11, hji11⟩ : ∃ j_ : Int, (wrap64 (a1 + x35_2)) = j_ := ⟨_, rfl⟩
              replace H : (if 0 ≤ (ji11) then (if (ji11) < (l0.length : Int) then (if 0 ≤ (wrap64 (8 * x35_2)) then (ashlarref01_Get.l0 k2 l0 a1 (Go.bits .or .u64 x8_2 (shl .u64 (IntKind.u64.wrap (rd l0 (ji11))) (wrap64 (8 * x35_2)))) a2 (wrap64 (x35_2 + 1))) else (none)) else (none)) else (none)) = some (r1, r2) := by first | (rw [hji11] at H; exact H) | (simp only [hji11] at H ⊢; exact H)
              have hji11w : (IntKind.i64.wrap (a1 + x35_2)) = ji11 := (i64_w _).trans hji11
              by_cases c12 : 0 ≤ (ji11)
              · rw [if_pos c12] at H
                have c12b0 : decide (0 ≤ (ji11)) = true := decide_eq_true c12
                clear c12
                by_cases c13 : (ji11) < (l0.length : Int)
                · rw [if_pos c13] at H
                  have c13b0 : decide ((ji11) < (l0.length : Int)) = true := decide_eq_true c13
                  clear c13
                  obtain ⟨ji14, hji14⟩ : ∃ j_ : Int, (wrap64 (8 * x35_2)) = j_ := ⟨_, rfl⟩
                  replace H : (if 0 ≤ (ji14) then (ashlarref01_Get.l0 k2 l0 a1 (Go.bits .or .u64 x8_2 (shl .u64 (IntKind.u64.wrap (rd l0 (ji11))) (ji14))) a2 (wrap64 (x35_2 + 1))) else (none)) = some (r1, r2) := by first | (rw [hji14] at H; exact H) | (simp only [hji14] at H ⊢; exact H)
                  have hji14w : (IntKind.i64.wrap (8 * x35_2)) = ji14 := (i64_w _).trans hji14
                  by_cases c15 : 0 ≤ (ji14)
                  · rw [if_pos c15] at H
                    have c15b0 := eq_true c15
                    have c15b1 : decide (0 ≤ (ji14)) = true := decide_eq_true c15
                    clear c15
                    obtain ⟨ji16, hji16⟩ : ∃ j_ : Int, (shl .u64 (IntKind.u64.wrap (rd l0 (ji11))) (ji14)) = j_ := ⟨_, rfl⟩
                    replace H : (ashlarref01_Get.l0 k2 l0 a1 (Go.bits .or .u64 x8_2 (ji16)) a2 (wrap64 (x35_2 + 1))) = some (r1, r2) := by first | (rw [hji16] at H; exact H) | (simp only [hji16] at H ⊢; exact H)
                    have hji16_ : (IntKind.u64.wrap ((IntKind.u64.wrap (rd l0 (ji11))) * 2 ^ min (ji14).toNat 64)) = ji16 := hji16
                    have hji16z : (ji14) ≤ 64 → (IntKind.u64.wrap ((IntKind.u64.wrap (rd l0 (ji11))) * 2 ^ (ji14).toNat)) = ji16 := shl_small hji16
                    have H' := Aside0.mk H
                    clear H
                    have p188 : 0 ≤ ((ji11) : Int) := of_decide_eq_true (by first | (with_reducible assumption) | assumption)
                    have q188 : (ji11) < (l0.length : Int) := of_decide_eq_true (by first | (with_reducible assumption) | assumption)
                    obtain ⟨ad188, e188, hx188_0⟩ := Kd.at_int HR0.out (ji11) p188 q188
                    cases e188
                    replace p188 := eq_true p188
                    replace q188 := eq_true q188
                    go_wp2
                    go_roundg k2
                    case measure => have := HJ3.out; have := HK2.out; omega
                    case rel => exact ⟨(Go.bits .or .u64 x8_2 (ji16)), (wrap64 (x35_2 + 1)), (by first | rfl | (simp; done) | (simp only [← hji16] <;> (first | rfl | simp)) | (simp [*]; done)), (by first | rfl | (simp; done) | (simp [*]; done)), H', ⟨by have := HJ3.out; have := HK2.out; omega⟩, by repeat (first | exact Drawn0.refl _ | apply Drawn0.step)⟩
                  · rw [if_neg c15] at H
                    exact absurd H (by simp)
                · rw [if_neg c13] at H
                  exact absurd H (by simp)
              · rw [if_neg c12] at H
                exact absurd H (by simp)
            · rw [if_neg c10] at H
              have c10b0 : decide (x35_2 < a2) = false := decide_eq_false c10
              clear c10
              simp only [Option.some.injEq, Prod.mk.injEq] at H
              obtain ⟨rfl, rfl⟩ := H
              go_wp2
              go_ret2
              exact ⟨by first | rfl | (simp; done) | (simp [*]; done), by repeat (first | exact Drawn0.refl _ | apply Drawn0.step)⟩

/-! ### ashlarref05_two: function 69 -/
def ashlarref05_two.f (k : Nat) (l0 : List Int) (a1 : Int) : Option (Int) := (ashlarref01_Get.f k l0 a1 2).bind fun bt189 => (some (wrap64 (bt189.1)))
theorem ashlarref05_two.mono : ∀ a0 a1 k, LeO (ashlarref05_two.f k a0 a1) (ashlarref05_two.f (k + 1) a0 a1) := by
  intro a0 a1 k
  unfold ashlarref05_two.f
  repeat' first
      | (with_reducible exact ashlarref01_Get.mono _ _ _ _)
      | (with_reducible exact LeO.refl _)
      | (with_reducible exact LeO.none _)
      | (with_reducible refine LeO.ite ?_ ?_)
      | (with_reducible refine LeO.bind ?_ (fun _ => ?_))
      | exact ashlarref01_Get.mono _ _ _ _
      | exact LeO.none _
      | refine LeO.ite ?_ ?_
      | refine LeO.bind ?_ (fun _ => ?_)
set_option maxHeartbeats 8000000 in
set_option maxRecDepth 100000 in
theorem ashlarref05_two.calls (k : Nat) (A0 : Option Addr) (c0 : Nat) (l0 : List Int) (a1 : Int) (r : Int) (w : World) (hr0 : Kd.C (Kd.int .u8) w A0 l0.length l0) (hc0 : l0.length ≤ c0) (h : ashlarref05_two.f k l0 a1 = some r) :
    Calls Try.prog 69 #[.slice A0 l0.length c0, .int .i64 a1] w fun e w' => e = .returned (.int .i64 r) ∧ Drawn0 w w' := by
  have HR0 := Aside0.mk hr0
  have HC0 := Aside0.mk hc0
  clear hr0 hc0
  have H : ((ashlarref01_Get.f k l0 a1 2).bind fun bt189 => (some (wrap64 (bt189.1)))) = some r := h
  clear h
  replace H := Option.bind_eq_some_iff.mp H
  obtain ⟨⟨t189, t190⟩, A30, H⟩ := H
  replace H : (some (wrap64 (t189))) = some r := H
  have A3 := Aside0.mk A30
  clear A30
  obtain rfl := Option.some.inj H
  go_enter Try.func69, Try.ntmps69
  go_wp2_with (first | ((with_reducible refine gate_callee (f := 73) rfl ?_); refine goesL_ (some 10) rfl rfl Try.func73 (by kernel_rfl) rfl #[.slice A0 l0.length c0, .int .i64 a1, .int .i64 2] rfl (by (try simp only [List.map_toArray, List.map_cons, List.map_nil]); first | done | rfl | (simp only [List.length_drop, List.length_take]; rfl)) ?_; (with_reducible refine (ashlarref01_Get.calls k _ _ l0 a1 2 t189 t190 _ ?side1 ?side2 A3.out).mono ?_); (case side1 => repeat (first | exact HR0.out | (with_reducible refine Kd.C_alloc ?_ _) | (with_reducible refine Kd.C_drewN ?_ _) | (with_reducible refine Kd.C_drew ?_))); (case side2 => exact HC0.out); rintro e w' ⟨rfl, ⟨nd, rfl⟩⟩; refine ⟨_, rfl, ?_⟩))
  go_ret
  exact ⟨by first | rfl | (simp; done) | (simp [*]; done), by repeat (first | exact Drawn0.refl _ | apply Drawn0.step)⟩

end Go.Proofs.Ytignifnkjlldpaa.PDirentDecodes
