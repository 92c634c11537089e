/- Written by a program of this session (xprint.py) out of the translation. What is proved, in the end: the Go law GroupPages answers true at every input, and its arguments read behind the call as before; no condition. -/
import Derived.Test.YtignifnkjlldpaaPGroupPagesx0
import Derived.Test.YtignifnkjlldpaaPGroupPagesx2
import Derived.Test.YtignifnkjlldpaaPGroupPagesx3
import Derived.Test.YtignifnkjlldpaaPGroupPagesx4
import Derived.Test.YtignifnkjlldpaaPGroupPagesx5
import Derived.Test.YtignifnkjlldpaaPGroupPagesx6
namespace Go.Proofs.Ytignifnkjlldpaa.PGroupPages
open Go.RowKit Go.Proofs.YtignifnkjlldpaaW.PrintWords Go.Proofs.YtignifnkjlldpaaW.PrintLast Go.Proofs.YtignifnkjlldpaaW.PrintMore
attribute [local go_sem] max2_int min2_int max_two min_two max_three min_three max_four min_four   -- for this text's walks alone
set_option linter.unusedVariables false
set_option linter.unusedSimpArgs false

/-! ### ashlarlaw06_GroupPages: function 11, by hand -/
/-- How many bytes a row of n bits has; how many bits a new row has. -/
def rowBytes (n : Int) : Int := (n + 7).tdiv 8
def clampRow (n : Int) : Int := if 4096 < if n < 0 then 0 else n then 4096 else if n < 0 then 0 else n
theorem clampRow_0 (n : Int) : 0 ≤ clampRow n := by unfold clampRow; omega
theorem clampRow_1 (n : Int) : clampRow n ≤ 4096 := by unfold clampRow; omega
theorem rowBytes_0 {m : Int} (h0 : 0 ≤ m) (h1 : m ≤ 4096) : 0 ≤ rowBytes m ∧ rowBytes m ≤ 512 := by unfold rowBytes; rw [Int.tdiv_eq_ediv_of_nonneg (by omega)]; omega
set_option maxHeartbeats 800000 in
set_option maxRecDepth 100000 in
theorem bits_New_calls (n : Int) (w : World) : Calls Try.prog 91 #[.int .i64 n] w fun e w' => ∃ g v, e = .returned (.pointer (some ⟨g, 0, none⟩)) ∧ w'.heap[g]? = some (.cells #[.int .i64 (clampRow n), v] 158 (0, 0)) ∧ Kd.R (Kd.int .u8) 5 w' w.heap.size (fun k => k < g) v (List.replicate (rowBytes (clampRow n)).toNat 0) ∧ w.heap.size ≤ g ∧ Below w.heap.size w w' := by
  have hu := Try.underlying158
  have info5 : (Try.prog.info? 5).map (fun i => (i.zero, i.size, i.bytes)) = some (some (.int .u8 0), 1, 1) := by kernel_rfl
  obtain ⟨m, hm⟩ : ∃ m, m = clampRow n := ⟨_, rfl⟩
  have hm0 : 0 ≤ m := by rw [hm]; exact clampRow_0 n
  have hm1 : m ≤ 4096 := by rw [hm]; exact clampRow_1 n
  obtain ⟨j, hj⟩ : ∃ j, j = rowBytes m := ⟨_, rfl⟩
  rw [← hm, ← hj]
  have hj0 := (rowBytes_0 hm0 hm1).1
  have hj1 := (rowBytes_0 hm0 hm1).2
  rw [← hj] at hj0 hj1
  go_enter Try.func91, Try.ntmps91
  go_upto_region 2 with (fail)
  rw [show (if 4096 < if n < 0 then 0 else n then 4096 else if n < 0 then 0 else n) = m from hm.symm]
  have e1 : IntKind.i64.wrap (m + 8) = m + 8 := by rw [i64_w]; unfold wrap64; omega
  have e2 : IntKind.i64.wrap (m + 8 - 1) = m + 7 := by rw [i64_w]; unfold wrap64; omega
  have e3 : (m + 7).tdiv 8 = j := hj.symm
  have e4 : IntKind.i64.wrap j = j := by rw [i64_w]; unfold wrap64; omega
  have HJ0 := Aside0.mk hj0
  have HJ1 := Aside0.mk hj1
  clear hm hj hm0 hm1 hj0 hj1
  go_wp2_with (first
    | ((with_reducible refine gate_dst (N := 11) rfl ?_); refine Kd.R_make (Kd.int .u8) _ 5 rfl (N := 11) rfl 23 _ _ rfl j rfl rfl Try.underlying23 (.int .u8 0) 1 info5 rfl (by decide) (by omega) 0 (ok := fun _ => True) (okp := fun _ => True) rfl (fun _ hk => hk) trivial HJ0.out (by have := HJ0.out; have := HJ1.out; omega) (Below.refl _ _) (Nat.le_refl _) ?_; intro v w1 ho hb hg_ hnew_; clear hg_ hnew_; obtain ⟨A2, c2, rfl⟩ := Kd.R_slice ho; have HO1 := Aside0.mk (Kd.R_mono (ok' := fun k => k < w1.heap.size) (Kd.R_bound ho) (fun k hk => hk.2.2.1)); have HB1 := Aside0.mk hb; clear ho hb)
    | ((with_reducible refine gate_dst (N := 13) rfl ?_); refine box_event ?hg (N := 13) ?hd (cs := #[.int .i64 m, .slice A2 (List.replicate j.toNat (0 : Int)).length c2]) (t := 158) ?hr ?_; (case hd => rfl); (case hg => rfl); (case hr => first | (go_simp; done) | (go_simp; rfl)); intro gb hg w2 hbox hb; have HB2 := Aside0.mk (below_step HB1.out hb); have BK := Aside0.mk hbox; have HO2 := Aside0.mk (Kd.R_below HO1.out hb); have HG := Aside0.mk hg; clear hb hbox hg))
  all_goals
    go_ret
    refine ⟨gb, (by first | rfl | simp), _, BK.out, ?_, ?_, HB2.out⟩
    · have h := HO2.out
      rw [HG.out]
      exact h
    · rw [HG.out]
      exact HB1.out.size
theorem clampRow_in {n : Int} (h0 : 0 ≤ n) (h1 : n ≤ 4096) : clampRow n = n := by unfold clampRow; omega
set_option maxHeartbeats 800000 in
set_option maxRecDepth 100000 in
theorem bits_Of_even (n : Int) (A0 : Option Addr) (c0 : Nat) (b : List Int) (w : World) (hr0 : Kd.C (Kd.int .u8) w A0 b.length b) (hc0 : b.length ≤ c0) (h0 : 0 ≤ n) (h1 : n ≤ 4096) (h2 : (b.length : Int) = rowBytes n) (h3 : n.tmod 8 = 0) :
    Calls Try.prog 98 #[.int .i64 n, .slice A0 b.length c0] w fun e w' => ∃ g A c, e = .returned (.tuple #[.pointer (some ⟨g, 0, none⟩), .int .i64 0]) ∧ w'.heap[g]? = some (.cells #[.int .i64 n, .slice A b.length c] 158 (0, 0)) ∧ Kd.R (Kd.int .u8) 5 w' w.heap.size (fun k => k < g) (.slice A b.length c) b ∧ w.heap.size ≤ g ∧ Below w.heap.size w w' := by
  have hu := Try.underlying158
  have HR := Aside0.mk hr0
  have HC := Aside0.mk hc0
  have q1 : decide (n < 0) = false := decide_eq_false (by omega)
  have q2 : decide (4096 < n) = false := decide_eq_false (by omega)
  obtain ⟨z, hz⟩ : ∃ z : List Int, z = List.replicate (rowBytes n).toNat 0 := ⟨_, rfl⟩
  have hzl : z.length = b.length := by rw [hz, List.length_replicate]; omega
  have q3 : ((b.length : Int) != (z.length : Int)) = false := by rw [hzl]; simp
  have q4 : (n.tmod 8 != 0) = false := by rw [h3]; rfl
  have HZ := Aside0.mk hz
  have HZL := Aside0.mk hzl
  have HN := Aside0.mk (clampRow_in h0 h1)
  clear hr0 hc0 h0 h1 h2 h3 hz hzl
  go_enter Try.func98, Try.ntmps98
  go_upto_region 4 with (first
    | (go_at_call 91; go_must (refine (bits_New_calls n _).mono ?_); rw [HN.out, ← HZ.out]; rintro e w1 ⟨g, v, rfl, hbk, ho, hg, hb⟩; obtain ⟨A2, c2, rfl⟩ := Kd.R_slice ho; have HB1 := Aside0.mk hb; have BK := Aside0.mk hbk; have HO := Aside0.mk ho; have HG := Aside0.mk hg; clear hb hbk ho hg))
  have hc0 : w1.cell? ⟨g, 0, none⟩ = some (.int .i64 n) := (blk_cell BK.out 0).trans rfl
  have hc1 : w1.cell? ⟨g, 1, none⟩ = some (.slice A2 z.length c2) := (blk_cell BK.out 1).trans rfl
  have hf0 := blk_frozen BK.out 0
  have hf1 := blk_frozen BK.out 1
  go_upto_region 6 with (fail)
  have info5 : (Try.prog.info? 5).map (·.size) = some 1 := by kernel_rfl
  go_wp2_with (first
    | ((with_reducible refine gate_builtin (b := .copy) (xs := #[.tmp 44, .tmp 45]) rfl ?_); go_must (refine Kd.R_copy (0 : Int) (w0 := w) w.heap.size rfl (.tmp 44) (.tmp 45) 23 23 5 rfl Try.underlying23 info5 (.slice A2 z.length c2) z b A0 b.length c0 (fun k => k < g) rfl rfl HO.out (Kd.C_below HR.out HB1.out) HB1.out HB1.out.size ?_); intro w2 ho hb hg; have HO2 := Aside0.mk ho; have HB2 := Aside0.mk hb; have HGR := Aside0.mk hg; clear ho hb hg))
  go_ret2
  have hne : some g ≠ (Value.slice A2 z.length c2).ownBlock := fun e => absurd (HO.out.1 g e.symm) (Nat.lt_irrefl g)
  have e1 : b.take (min b.length z.length) ++ z.drop (min b.length z.length) = b := by rw [HZL.out, Nat.min_self, List.take_length, List.drop_of_length_le (by rw [HZL.out]; exact Nat.le_refl _), List.append_nil]
  refine ⟨g, A2, c2, rfl, ?_, ?_, HG.out, HB2.out⟩
  · have := blk_grown BK.out HGR.out hne
    rwa [HZL.out] at this
  · have := HO2.out
    rw [e1, HZL.out] at this
    exact this
set_option maxHeartbeats 800000 in
set_option maxRecDepth 100000 in
theorem bits_Of_odd (n : Int) (A0 : Option Addr) (c0 : Nat) (b : List Int) (w : World) (hr0 : Kd.C (Kd.int .u8) w A0 b.length b) (hc0 : b.length ≤ c0) (h0 : 0 ≤ n) (h1 : n ≤ 4096) (h2 : (b.length : Int) = rowBytes n) (h3 : n.tmod 8 ≠ 0) (h4 : shr .u8 (rd b ((b.length : Int) - 1)) (n.tmod 8) = 0) :
    Calls Try.prog 98 #[.int .i64 n, .slice A0 b.length c0] w fun e w' => ∃ g A c, e = .returned (.tuple #[.pointer (some ⟨g, 0, none⟩), .int .i64 0]) ∧ w'.heap[g]? = some (.cells #[.int .i64 n, .slice A b.length c] 158 (0, 0)) ∧ Kd.R (Kd.int .u8) 5 w' w.heap.size (fun k => k < g) (.slice A b.length c) b ∧ w.heap.size ≤ g ∧ Below w.heap.size w w' := by
  have hu := Try.underlying158
  have HR := Aside0.mk hr0
  have HC := Aside0.mk hc0
  have q1 : decide (n < 0) = false := decide_eq_false (by omega)
  have q2 : decide (4096 < n) = false := decide_eq_false (by omega)
  obtain ⟨z, hz⟩ : ∃ z : List Int, z = List.replicate (rowBytes n).toNat 0 := ⟨_, rfl⟩
  have hzl : z.length = b.length := by rw [hz, List.length_replicate]; omega
  have q3 : ((b.length : Int) != (z.length : Int)) = false := by rw [hzl]; simp
  have q4 : (n.tmod 8 != 0) = true := bne_iff_ne.2 h3
  have t0 : 0 ≤ n.tmod 8 ∧ n.tmod 8 < 8 := by rw [Int.tmod_eq_emod_of_nonneg h0]; omega
  have hbl : 1 ≤ b.length := by
    have : n.tmod 8 = n % 8 := Int.tmod_eq_emod_of_nonneg h0
    have e : rowBytes n = (n + 7) / 8 := by unfold rowBytes; rw [Int.tdiv_eq_ediv_of_nonneg (by omega)]
    omega
  have hblm : b.length ≤ 512 := by have := (rowBytes_0 h0 h1).2; omega
  obtain ⟨ji, hji⟩ : ∃ ji, ji = (b.length : Int) - 1 := ⟨_, rfl⟩
  rw [← hji] at h4
  obtain ⟨ad, e101, hx⟩ := Kd.at_int hr0 ji (by omega) (by omega)
  cases e101
  have HX := Aside0.mk hx
  obtain ⟨tm, htm⟩ : ∃ tm, tm = n.tmod 8 := ⟨_, rfl⟩
  have htm' : n.tmod 8 = tm := htm.symm
  rw [← htm] at h4 q4 t0
  have e1 : IntKind.i64.wrap ((b.length : Int) - 1) = ji := by rw [i64_w, ← hji]; unfold wrap64; omega
  have e2 : IntKind.u64.wrap tm = tm := by rw [IntKind.wrap_u64]; omega
  have e3 : (rd b ji) / 2 ^ min tm.toNat 8 = 0 := h4
  have e3z := shr_small h4 (show tm ≤ 8 by omega)
  have p1 : (0 ≤ ji) = True := eq_true (by omega)
  have p2 : (ji < (b.length : Int)) = True := eq_true (by omega)
  have p3 : (0 ≤ tm) = True := eq_true (by omega)
  have p4 : decide (0 ≤ tm) = true := decide_eq_true (by omega)
  clear hx hji htm h4 t0 hbl hblm
  have HZ := Aside0.mk hz
  have HZL := Aside0.mk hzl
  have HN := Aside0.mk (clampRow_in h0 h1)
  clear hr0 hc0 h0 h1 h2 h3 hz hzl
  go_enter Try.func98, Try.ntmps98
  go_upto_region 4 with (first
    | (go_at_call 91; go_must (refine (bits_New_calls n _).mono ?_); rw [HN.out, ← HZ.out]; rintro e w1 ⟨g, v, rfl, hbk, ho, hg, hb⟩; obtain ⟨A2, c2, rfl⟩ := Kd.R_slice ho; have HB1 := Aside0.mk hb; have BK := Aside0.mk hbk; have HO := Aside0.mk ho; have HG := Aside0.mk hg; clear hb hbk ho hg))
  have hc0 : w1.cell? ⟨g, 0, none⟩ = some (.int .i64 n) := (blk_cell BK.out 0).trans rfl
  have hc1 : w1.cell? ⟨g, 1, none⟩ = some (.slice A2 z.length c2) := (blk_cell BK.out 1).trans rfl
  have hf0 := blk_frozen BK.out 0
  have hf1 := blk_frozen BK.out 1
  have hx := pw_cell_below HB1.out HX.out
  go_upto_region 6 with (fail)
  have info5 : (Try.prog.info? 5).map (·.size) = some 1 := by kernel_rfl
  go_wp2_with (first
    | ((with_reducible refine gate_builtin (b := .copy) (xs := #[.tmp 44, .tmp 45]) rfl ?_); go_must (refine Kd.R_copy (0 : Int) (w0 := w) w.heap.size rfl (.tmp 44) (.tmp 45) 23 23 5 rfl Try.underlying23 info5 (.slice A2 z.length c2) z b (some ad) b.length c0 (fun k => k < g) rfl rfl HO.out (Kd.C_below HR.out HB1.out) HB1.out HB1.out.size ?_); intro w2 ho hb hg; have HO2 := Aside0.mk ho; have HB2 := Aside0.mk hb; have HGR := Aside0.mk hg; clear ho hb hg))
  go_ret2
  have hne : some g ≠ (Value.slice A2 z.length c2).ownBlock := fun e => absurd (HO.out.1 g e.symm) (Nat.lt_irrefl g)
  have e1 : b.take (min b.length z.length) ++ z.drop (min b.length z.length) = b := by rw [HZL.out, Nat.min_self, List.take_length, List.drop_of_length_le (by rw [HZL.out]; exact Nat.le_refl _), List.append_nil]
  refine ⟨g, A2, c2, rfl, ?_, ?_, HG.out, HB2.out⟩
  · have := blk_grown BK.out HGR.out hne
    rwa [HZL.out] at this
  · have := HO2.out
    rw [e1, HZL.out] at this
    exact this
set_option maxRecDepth 100000 in
theorem bits_Of_arg (n : Int) (A0 : Option Addr) (c0 : Nat) (b : List Int) (w : World) (h : n < 0 ∨ 4096 < n) :
    Calls Try.prog 98 #[.int .i64 n, .slice A0 b.length c0] w fun e w' => e = .returned (.tuple #[.pointer none, .int .i64 1]) ∧ Below w.heap.size w w' := by
  by_cases h0 : n < 0
  · have q1 : decide (n < 0) = true := decide_eq_true h0
    clear h h0
    go_enter Try.func98, Try.ntmps98
    go_wp2
    go_ret2
    exact ⟨rfl, Below.refl _ _⟩
  · have q1 : decide (n < 0) = false := decide_eq_false h0
    have q2 : decide (4096 < n) = true := decide_eq_true (by omega)
    clear h h0
    go_enter Try.func98, Try.ntmps98
    go_wp2
    go_ret2
    exact ⟨rfl, Below.refl _ _⟩
set_option maxHeartbeats 800000 in
set_option maxRecDepth 100000 in
theorem bits_Of_len (n : Int) (A0 : Option Addr) (c0 : Nat) (b : List Int) (w : World) (hr0 : Kd.C (Kd.int .u8) w A0 b.length b) (hc0 : b.length ≤ c0) (h0 : 0 ≤ n) (h1 : n ≤ 4096) (h2 : (b.length : Int) ≠ rowBytes n) :
    Calls Try.prog 98 #[.int .i64 n, .slice A0 b.length c0] w fun e w' => e = .returned (.tuple #[.pointer none, .int .i64 18]) ∧ Below w.heap.size w w' := by
  have hu := Try.underlying158
  have HR := Aside0.mk hr0
  have HC := Aside0.mk hc0
  have q1 : decide (n < 0) = false := decide_eq_false (by omega)
  have q2 : decide (4096 < n) = false := decide_eq_false (by omega)
  obtain ⟨z, hz⟩ : ∃ z : List Int, z = List.replicate (rowBytes n).toNat 0 := ⟨_, rfl⟩
  have q3 : ((b.length : Int) != (z.length : Int)) = true := bne_iff_ne.2 (by rw [hz, List.length_replicate]; have := (rowBytes_0 h0 h1).1; omega)
  have HZ := Aside0.mk hz
  have HN := Aside0.mk (clampRow_in h0 h1)
  clear hr0 hc0 h0 h1 h2 hz
  go_enter Try.func98, Try.ntmps98
  go_upto_region 4 with (first
    | (go_at_call 91; go_must (refine (bits_New_calls n _).mono ?_); rw [HN.out, ← HZ.out]; rintro e w1 ⟨g, v, rfl, hbk, ho, hg, hb⟩; obtain ⟨A2, c2, rfl⟩ := Kd.R_slice ho; have HB1 := Aside0.mk hb; have BK := Aside0.mk hbk; have HO := Aside0.mk ho; have HG := Aside0.mk hg; clear hb hbk ho hg))
  have hc0 : w1.cell? ⟨g, 0, none⟩ = some (.int .i64 n) := (blk_cell BK.out 0).trans rfl
  have hc1 : w1.cell? ⟨g, 1, none⟩ = some (.slice A2 z.length c2) := (blk_cell BK.out 1).trans rfl
  have hf0 := blk_frozen BK.out 0
  have hf1 := blk_frozen BK.out 1
  go_wp2
  go_ret2
  exact ⟨rfl, HB1.out⟩
set_option maxHeartbeats 800000 in
set_option maxRecDepth 100000 in
theorem bits_Of_tail (n : Int) (A0 : Option Addr) (c0 : Nat) (b : List Int) (w : World) (hr0 : Kd.C (Kd.int .u8) w A0 b.length b) (hc0 : b.length ≤ c0) (h0 : 0 ≤ n) (h1 : n ≤ 4096) (h2 : (b.length : Int) = rowBytes n) (h3 : n.tmod 8 ≠ 0) (h4 : shr .u8 (rd b ((b.length : Int) - 1)) (n.tmod 8) ≠ 0) :
    Calls Try.prog 98 #[.int .i64 n, .slice A0 b.length c0] w fun e w' => e = .returned (.tuple #[.pointer none, .int .i64 18]) ∧ Below w.heap.size w w' := by
  have hu := Try.underlying158
  have HR := Aside0.mk hr0
  have HC := Aside0.mk hc0
  have q1 : decide (n < 0) = false := decide_eq_false (by omega)
  have q2 : decide (4096 < n) = false := decide_eq_false (by omega)
  obtain ⟨z, hz⟩ : ∃ z : List Int, z = List.replicate (rowBytes n).toNat 0 := ⟨_, rfl⟩
  have hzl : z.length = b.length := by rw [hz, List.length_replicate]; omega
  have q3 : ((b.length : Int) != (z.length : Int)) = false := by rw [hzl]; simp
  have q4 : (n.tmod 8 != 0) = true := bne_iff_ne.2 h3
  have t0 : 0 ≤ n.tmod 8 ∧ n.tmod 8 < 8 := by rw [Int.tmod_eq_emod_of_nonneg h0]; omega
  have hbl : 1 ≤ b.length := by
    have : n.tmod 8 = n % 8 := Int.tmod_eq_emod_of_nonneg h0
    have e : rowBytes n = (n + 7) / 8 := by unfold rowBytes; rw [Int.tdiv_eq_ediv_of_nonneg (by omega)]
    omega
  have hblm : b.length ≤ 512 := by have := (rowBytes_0 h0 h1).2; omega
  obtain ⟨ji, hji⟩ : ∃ ji, ji = (b.length : Int) - 1 := ⟨_, rfl⟩
  rw [← hji] at h4
  obtain ⟨ad, e101, hx⟩ := Kd.at_int hr0 ji (by omega) (by omega)
  cases e101
  have HX := Aside0.mk hx
  obtain ⟨tm, htm⟩ : ∃ tm, tm = n.tmod 8 := ⟨_, rfl⟩
  have htm' : n.tmod 8 = tm := htm.symm
  rw [← htm] at h4 q4 t0
  have e1 : IntKind.i64.wrap ((b.length : Int) - 1) = ji := by rw [i64_w, ← hji]; unfold wrap64; omega
  have e2 : IntKind.u64.wrap tm = tm := by rw [IntKind.wrap_u64]; omega
  obtain ⟨sv, hsv⟩ : ∃ sv, shr .u8 (rd b ji) tm = sv := ⟨_, rfl⟩
  rw [hsv] at h4
  have e3 : (rd b ji) / 2 ^ min tm.toNat 8 = sv := hsv
  have e3z := shr_small hsv (show tm ≤ 8 by omega)
  have q5 : (sv != 0) = true := bne_iff_ne.2 h4
  have p1 : (0 ≤ ji) = True := eq_true (by omega)
  have p2 : (ji < (b.length : Int)) = True := eq_true (by omega)
  have p3 : (0 ≤ tm) = True := eq_true (by omega)
  have p4 : decide (0 ≤ tm) = true := decide_eq_true (by omega)
  clear hx hji htm h4 hsv t0 hbl hblm
  have HZ := Aside0.mk hz
  have HZL := Aside0.mk hzl
  have HN := Aside0.mk (clampRow_in h0 h1)
  clear hr0 hc0 h0 h1 h2 h3 hz hzl
  go_enter Try.func98, Try.ntmps98
  go_upto_region 4 with (first
    | (go_at_call 91; go_must (refine (bits_New_calls n _).mono ?_); rw [HN.out, ← HZ.out]; rintro e w1 ⟨g, v, rfl, hbk, ho, hg, hb⟩; obtain ⟨A2, c2, rfl⟩ := Kd.R_slice ho; have HB1 := Aside0.mk hb; have BK := Aside0.mk hbk; have HO := Aside0.mk ho; have HG := Aside0.mk hg; clear hb hbk ho hg))
  have hc0 : w1.cell? ⟨g, 0, none⟩ = some (.int .i64 n) := (blk_cell BK.out 0).trans rfl
  have hc1 : w1.cell? ⟨g, 1, none⟩ = some (.slice A2 z.length c2) := (blk_cell BK.out 1).trans rfl
  have hf0 := blk_frozen BK.out 0
  have hf1 := blk_frozen BK.out 1
  have hx := pw_cell_below HB1.out HX.out
  go_wp2
  go_ret2
  exact ⟨rfl, HB1.out⟩
/-- A row of bits of one's own at block g: its bytes lie in an elder block. -/
def OwnRow_ (W : World) (base g : Nat) (n : Int) (b : List Int) : Prop := ∃ A c, W.heap[g]? = some (.cells #[.int .i64 n, .slice A b.length c] 158 (0, 0)) ∧ Kd.R (Kd.int .u8) 5 W base (fun k => k < g) (.slice A b.length c) b ∧ base ≤ g
def setBit (b : List Int) (i : Int) (on : Bool) : List Int := b.set (i.tdiv 8).toNat (if on then Go.bits .or .u8 (rd b (i.tdiv 8)) (shl .u8 1 (i.tmod 8)) else Go.bits .andNot .u8 (rd b (i.tdiv 8)) (shl .u8 1 (i.tmod 8)))
set_option maxHeartbeats 800000 in
set_option maxRecDepth 100000 in
theorem bits_Set_true (g : Nat) (i n : Int) (b : List Int) (w0 w : World) (base : Nat) (hI : OwnRow_ w base g n b) (hB : Below base w0 w) (h0 : 0 ≤ i) (h1 : i < n) (h2 : i.tdiv 8 < (b.length : Int)) (hbl : b.length ≤ 512) :
    Calls Try.prog 92 #[.pointer (some ⟨g, 0, none⟩), .int .i64 i, .bool true] w fun e w' => e = .returned (.int .i64 0) ∧ OwnRow_ w' base g n (setBit b i true) ∧ Below base w0 w' := by
  obtain ⟨A, c, hbk, ho, hg⟩ := hI
  have BK := Aside0.mk hbk
  have HG := Aside0.mk hg
  have HB := Aside0.mk hB
  have hc0 : w.cell? ⟨g, 0, none⟩ = some (.int .i64 n) := (blk_cell BK.out 0).trans rfl
  have hc1 : w.cell? ⟨g, 1, none⟩ = some (.slice A b.length c) := (blk_cell BK.out 1).trans rfl
  have hf0 := blk_frozen BK.out 0
  have hf1 := blk_frozen BK.out 1
  have d1 : decide (i < 0) = false := decide_eq_false (by omega)
  have d2 : decide (n ≤ i) = false := decide_eq_false (by omega)
  obtain ⟨q, hq⟩ : ∃ q, i.tdiv 8 = q := ⟨_, rfl⟩
  obtain ⟨tm, htm⟩ : ∃ tm, i.tmod 8 = tm := ⟨_, rfl⟩
  have hq0 : 0 ≤ q := by rw [← hq, Int.tdiv_eq_ediv_of_nonneg h0]; omega
  have t0 : 0 ≤ tm ∧ tm < 8 := by rw [← htm, Int.tmod_eq_emod_of_nonneg h0]; omega
  rw [hq] at h2
  have hpos : 0 < b.length := by omega
  obtain ⟨ga, ca, hform, gb, _⟩ := Kd.R_form ho hpos
  injection hform with hA hln hcc
  subst hA
  clear hln hcc
  have HNE := Aside0.mk (show g ≠ ga from fun e => absurd (ho.1 ga rfl) (by rw [e]; exact Nat.lt_irrefl _))
  have GB := Aside0.mk gb
  obtain ⟨hx0, hfx⟩ := Kd.R_cell 0 ho q hq0 h2
  have hx : w.cell? ⟨ga, q.toNat, none⟩ = some (.int .u8 (rd b q)) := hx0
  clear hx0
  obtain ⟨sv, hsv⟩ : ∃ sv, shl .u8 1 tm = sv := ⟨_, rfl⟩
  have e6 : (2 : Int) ^ min tm.toNat 8 % 256 = sv := by rw [← hsv]; unfold shl; rw [IntKind.wrap_u8, Int.one_mul]; rfl
  have e2 : IntKind.u64.wrap tm = tm := by rw [IntKind.wrap_u64]; omega
  have e5 : IntKind.i64.wrap q = q := by rw [i64_w]; unfold wrap64; omega
  have p1 : (0 ≤ q) = True := eq_true hq0
  have p2 : (q < (b.length : Int)) = True := eq_true h2
  have p3 : (0 ≤ tm) = True := eq_true (by omega)
  have p4 : decide (0 ≤ tm) = true := decide_eq_true (by omega)
  have HP := Aside0.mk (Kd.R_putg ho q (Go.bits .or .u8 (rd b q) sv))
  have HO := Aside0.mk ho
  have hset : setBit b i true = b.set q.toNat (Go.bits .or .u8 (rd b q) sv) := by unfold setBit; rw [hq, htm, hsv]; rfl
  rw [hset]
  clear hbk ho hg hB gb hset h0 h1 h2 hq0 t0 hpos hbl hsv
  go_enter Try.func92, Try.ntmps92
  go_wp2
  go_ret
  refine ⟨rfl, ⟨some ⟨ga, 0, none⟩, c, ?_, ?_, HG.out⟩, HB.out.setCell GB.out _⟩
  · rw [List.length_set]; exact blk_far BK.out HNE.out _
  · rw [List.length_set]; exact HP.out.1
set_option maxHeartbeats 800000 in
set_option maxRecDepth 100000 in
theorem bits_Set_false (g : Nat) (i n : Int) (b : List Int) (w0 w : World) (base : Nat) (hI : OwnRow_ w base g n b) (hB : Below base w0 w) (h0 : 0 ≤ i) (h1 : i < n) (h2 : i.tdiv 8 < (b.length : Int)) (hbl : b.length ≤ 512) :
    Calls Try.prog 92 #[.pointer (some ⟨g, 0, none⟩), .int .i64 i, .bool false] w fun e w' => e = .returned (.int .i64 0) ∧ OwnRow_ w' base g n (setBit b i false) ∧ Below base w0 w' := by
  obtain ⟨A, c, hbk, ho, hg⟩ := hI
  have BK := Aside0.mk hbk
  have HG := Aside0.mk hg
  have HB := Aside0.mk hB
  have hc0 : w.cell? ⟨g, 0, none⟩ = some (.int .i64 n) := (blk_cell BK.out 0).trans rfl
  have hc1 : w.cell? ⟨g, 1, none⟩ = some (.slice A b.length c) := (blk_cell BK.out 1).trans rfl
  have hf0 := blk_frozen BK.out 0
  have hf1 := blk_frozen BK.out 1
  have d1 : decide (i < 0) = false := decide_eq_false (by omega)
  have d2 : decide (n ≤ i) = false := decide_eq_false (by omega)
  obtain ⟨q, hq⟩ : ∃ q, i.tdiv 8 = q := ⟨_, rfl⟩
  obtain ⟨tm, htm⟩ : ∃ tm, i.tmod 8 = tm := ⟨_, rfl⟩
  have hq0 : 0 ≤ q := by rw [← hq, Int.tdiv_eq_ediv_of_nonneg h0]; omega
  have t0 : 0 ≤ tm ∧ tm < 8 := by rw [← htm, Int.tmod_eq_emod_of_nonneg h0]; omega
  rw [hq] at h2
  have hpos : 0 < b.length := by omega
  obtain ⟨ga, ca, hform, gb, _⟩ := Kd.R_form ho hpos
  injection hform with hA hln hcc
  subst hA
  clear hln hcc
  have HNE := Aside0.mk (show g ≠ ga from fun e => absurd (ho.1 ga rfl) (by rw [e]; exact Nat.lt_irrefl _))
  have GB := Aside0.mk gb
  obtain ⟨hx0, hfx⟩ := Kd.R_cell 0 ho q hq0 h2
  have hx : w.cell? ⟨ga, q.toNat, none⟩ = some (.int .u8 (rd b q)) := hx0
  clear hx0
  obtain ⟨sv, hsv⟩ : ∃ sv, shl .u8 1 tm = sv := ⟨_, rfl⟩
  have e6 : (2 : Int) ^ min tm.toNat 8 % 256 = sv := by rw [← hsv]; unfold shl; rw [IntKind.wrap_u8, Int.one_mul]; rfl
  have e2 : IntKind.u64.wrap tm = tm := by rw [IntKind.wrap_u64]; omega
  have e5 : IntKind.i64.wrap q = q := by rw [i64_w]; unfold wrap64; omega
  have p1 : (0 ≤ q) = True := eq_true hq0
  have p2 : (q < (b.length : Int)) = True := eq_true h2
  have p3 : (0 ≤ tm) = True := eq_true (by omega)
  have p4 : decide (0 ≤ tm) = true := decide_eq_true (by omega)
  have HP := Aside0.mk (Kd.R_putg ho q (Go.bits .andNot .u8 (rd b q) sv))
  have HO := Aside0.mk ho
  have hset : setBit b i false = b.set q.toNat (Go.bits .andNot .u8 (rd b q) sv) := by unfold setBit; rw [hq, htm, hsv]; rfl
  rw [hset]
  clear hbk ho hg hB gb hset h0 h1 h2 hq0 t0 hpos hbl hsv
  go_enter Try.func92, Try.ntmps92
  go_wp2
  go_ret
  refine ⟨rfl, ⟨some ⟨ga, 0, none⟩, c, ?_, ?_, HG.out⟩, HB.out.setCell GB.out _⟩
  · rw [List.length_set]; exact blk_far BK.out HNE.out _
  · rw [List.length_set]; exact HP.out.1
/-- These bytes are those of a row of n bits. -/
def OfOk (n : Int) (b : List Int) : Prop := 0 ≤ n ∧ n ≤ 4096 ∧ (b.length : Int) = rowBytes n ∧ (n.tmod 8 = 0 ∨ shr .u8 (rd b ((b.length : Int) - 1)) (n.tmod 8) = 0)
theorem bits_Of_ok (n : Int) (A0 : Option Addr) (c0 : Nat) (b : List Int) (w : World) (hr0 : Kd.C (Kd.int .u8) w A0 b.length b) (hc0 : b.length ≤ c0) (h : OfOk n b) :
    Calls Try.prog 98 #[.int .i64 n, .slice A0 b.length c0] w fun e w' => ∃ g, e = .returned (.tuple #[.pointer (some ⟨g, 0, none⟩), .int .i64 0]) ∧ OwnRow_ w' w.heap.size g n b ∧ Below w.heap.size w w' := by
  by_cases h3 : n.tmod 8 = 0
  · refine (bits_Of_even n A0 c0 b w hr0 hc0 h.1 h.2.1 h.2.2.1 h3).mono ?_
    rintro e w' ⟨g, A, c, he, hbk, ho, hg, hb⟩
    exact ⟨g, he, ⟨A, c, hbk, ho, hg⟩, hb⟩
  · refine (bits_Of_odd n A0 c0 b w hr0 hc0 h.1 h.2.1 h.2.2.1 h3 (h.2.2.2.resolve_left h3)).mono ?_
    rintro e w' ⟨g, A, c, he, hbk, ho, hg, hb⟩
    exact ⟨g, he, ⟨A, c, hbk, ho, hg⟩, hb⟩
/-- What Of answers where the bytes are no row's. -/
def ofErr (n : Int) : Int := if n < 0 ∨ 4096 < n then 1 else 18
theorem bits_Of_bad (n : Int) (A0 : Option Addr) (c0 : Nat) (b : List Int) (w : World) (hr0 : Kd.C (Kd.int .u8) w A0 b.length b) (hc0 : b.length ≤ c0) (h : ¬ OfOk n b) :
    Calls Try.prog 98 #[.int .i64 n, .slice A0 b.length c0] w fun e w' => e = .returned (.tuple #[.pointer none, .int .i64 (ofErr n)]) ∧ Below w.heap.size w w' := by
  by_cases h0 : n < 0 ∨ 4096 < n
  · rw [show ofErr n = 1 from if_pos h0]; exact bits_Of_arg n A0 c0 b w h0
  · rw [show ofErr n = 18 from if_neg h0]
    by_cases h2 : (b.length : Int) = rowBytes n
    · have h3 : ¬ (n.tmod 8 = 0 ∨ shr .u8 (rd b ((b.length : Int) - 1)) (n.tmod 8) = 0) := fun h3 => h ⟨by omega, by omega, h2, h3⟩
      exact bits_Of_tail n A0 c0 b w hr0 hc0 (by omega) (by omega) h2 (fun x => h3 (.inl x)) (fun x => h3 (.inr x))
    · exact bits_Of_len n A0 c0 b w hr0 hc0 (by omega) (by omega) h2
/-- A row of the document's: a list of bits behind a pointer. -/
def RefRow (W : World) (base g : Nat) (l : List Bool) : Prop := ∃ A c, W.heap[g]? = some (.cells #[.slice A l.length c] 145 (0, 0)) ∧ Kd.R Kd.bool 4 W base (fun k => k < g) (.slice A l.length c) l
theorem info_bool : (Try.prog.info? 4).map (fun i => (i.zero, i.size, i.bytes)) = some (some (.bool false), 1, 1) := by kernel_rfl
set_option maxHeartbeats 800000 in
set_option maxRecDepth 100000 in
theorem ref_New_calls (n : Int) (w : World) : Calls Try.prog 114 #[.int .i64 n] w fun e w' => ∃ g, e = .returned (.pointer (some ⟨g, 0, none⟩)) ∧ RefRow w' w.heap.size g (List.replicate (clampRow n).toNat false) ∧ w.heap.size ≤ g ∧ Below w.heap.size w w' := by
  have hu := Try.underlying145
  obtain ⟨m, hm⟩ : ∃ m, m = clampRow n := ⟨_, rfl⟩
  have hm0 : 0 ≤ m := by rw [hm]; exact clampRow_0 n
  have hm1 : m ≤ 4096 := by rw [hm]; exact clampRow_1 n
  rw [← hm]
  go_enter Try.func114, Try.ntmps114
  have HM := Aside0.mk hm
  have HJ0 := Aside0.mk hm0
  have HJ1 := Aside0.mk hm1
  clear hm hm0 hm1
  go_wp2_with (first
    | ((with_reducible refine gate_dst (N := 6) rfl ?_); rw [show (if 4096 < if n < 0 then 0 else n then 4096 else if n < 0 then 0 else n) = m from HM.out.symm]; refine Kd.R_make Kd.bool _ 4 rfl (N := 6) rfl 103 _ _ rfl m rfl rfl Try.underlying103 (.bool false) 1 info_bool rfl (by decide) (by omega) false (ok := fun _ => True) (okp := fun _ => True) rfl (fun _ hk => hk) trivial HJ0.out (by have := HJ0.out; have := HJ1.out; omega) (Below.refl _ _) (Nat.le_refl _) ?_; intro v w1 ho hb hg_ hnew_; clear hg_ hnew_; obtain ⟨A2, c2, rfl⟩ := Kd.R_slice ho; have HO1 := Aside0.mk (Kd.R_mono (ok' := fun k => k < w1.heap.size) (Kd.R_bound ho) (fun k hk => hk.2.2.1)); have HB1 := Aside0.mk hb; clear ho hb)
    | ((with_reducible refine gate_dst (N := 8) rfl ?_); refine box_event ?hg (N := 8) ?hd (cs := #[.slice A2 (List.replicate m.toNat false).length c2]) (t := 145) ?hr ?_; (case hd => rfl); (case hg => rfl); (case hr => first | (go_simp; done) | (go_simp; rfl)); intro gb hg w2 hbox hb; have HB2 := Aside0.mk (below_step HB1.out hb); have BK := Aside0.mk hbox; have HO2 := Aside0.mk (Kd.R_below HO1.out hb); have HG := Aside0.mk hg; clear hb hbox hg))
  all_goals
    go_ret
    refine ⟨gb, (by first | rfl | simp), ⟨_, _, BK.out, ?_⟩, ?_, HB2.out⟩
    · have h := HO2.out
      rw [HG.out]
      exact h
    · rw [HG.out]
      exact HB1.out.size
theorem RefRow.below {W W1 : World} {base g : Nat} {l : List Bool} (h : RefRow W base g l) (hb : Below W.heap.size W W1) : RefRow W1 base g l := by
  obtain ⟨A, c, hbk, ho⟩ := h
  exact ⟨A, c, blk_below hbk hb, Kd.R_below ho hb⟩
/-- Bit i, false outside. -/
def getS (l : List Bool) (i : Int) : Bool := decide (0 ≤ i) && l.getD i.toNat false
/-- Bit k of a row. -/
def bitAt (l : List Bool) (k : Nat) : Bool := l.getD k false
/-- What the walks ask of a row: its cells. -/
theorem RefRow.open_ {W : World} {base g : Nat} {l : List Bool} (h : RefRow W base g l) : ∃ A c, W.cell? ⟨g, 0, none⟩ = some (.slice A l.length c) ∧ W.frozen? ⟨g, 0, none⟩ = false ∧ l.length ≤ c ∧ (0 < l.length → ∃ ga, A = some ⟨ga, 0, none⟩ ∧ base ≤ ga ∧ ga ≠ g ∧ ∀ k : Nat, k < l.length → W.cell? ⟨ga, k, none⟩ = some (.bool (bitAt l k)) ∧ W.frozen? ⟨ga, k, none⟩ = false) := by
  obtain ⟨A, c, hbk, ho⟩ := h
  refine ⟨A, c, (blk_cell hbk 0).trans rfl, blk_frozen hbk 0, (Kd.R_reads' ho).2.1, fun hp => ?_⟩
  obtain ⟨ga, ca, hform, gb, _⟩ := Kd.R_form ho hp
  injection hform with hA hln hcc
  subst hA
  refine ⟨ga, rfl, gb, fun e => absurd (ho.1 ga rfl) (by rw [e]; exact Nat.lt_irrefl _), fun k hk => ?_⟩
  have := Kd.R_cell false ho (k : Int) (by omega) (by omega)
  exact this
theorem getS_neg {l : List Bool} {i : Int} (h : i < 0) : getS l i = false := by unfold getS; rw [decide_eq_false (by omega)]; rfl
theorem getS_big {l : List Bool} {i : Int} (h : (l.length : Int) ≤ i) : getS l i = false := by
  unfold getS
  rw [List.getD_eq_getElem?_getD, List.getElem?_eq_none (by omega)]; simp
theorem getS_in {l : List Bool} {i : Int} (h : 0 ≤ i) : getS l i = bitAt l i.toNat := by unfold getS; rw [decide_eq_true h]; rfl
/-- How many bits are 1, of the first k. -/
def cntTo (l : List Bool) (k : Nat) : Int := ((l.take k).count true : Nat)
theorem cntTo_succ (l : List Bool) (k : Nat) (h : k < l.length) : cntTo l (k + 1) = cntTo l k + if bitAt l k = true then 1 else 0 := by
  unfold cntTo bitAt
  rw [List.take_succ_eq_append_getElem h, List.count_append, List.getD_eq_getElem?_getD, List.getElem?_eq_getElem h]
  cases l[k] <;> simp
theorem cntTo_le (l : List Bool) (k : Nat) : 0 ≤ cntTo l k ∧ cntTo l k ≤ l.length := by
  unfold cntTo
  have h1 := List.count_le_length (l := l.take k) (a := true)
  have h2 : (l.take k).length ≤ l.length := by rw [List.length_take]; omega
  omega
set_option maxHeartbeats 800000 in
set_option maxRecDepth 100000 in
theorem ref_Count_calls (g : Nat) (l : List Bool) (base : Nat) (w : World) (hI : RefRow w base g l) (hl : l.length ≤ 4096) :
    Calls Try.prog 96 #[.pointer (some ⟨g, 0, none⟩)] w fun e w' => e = .returned (.int .i64 (cntTo l l.length)) ∧ w = w' := by
  obtain ⟨A, c, hc0, hf0, hlc, hin⟩ := hI.open_
  have HIN := Aside0.mk hin
  clear hI hin
  go_enter Try.func96, Try.ntmps96
  go_wp2
  go_loop [3, 10] (fun t i => ∃ k : Nat, k ≤ l.length ∧ i = .int .i64 k ∧ t = .int .i64 (cntTo l k)) (fun _ i => l.length - (intOf i).toNat)
  case atStart => exact ⟨0, Nat.zero_le _, rfl, rfl⟩
  case round =>
    obtain ⟨k, hk, rfl, rfl⟩ := hrel
    have hb := cntTo_le l k
    by_cases hlt : k < l.length
    · obtain ⟨ga, rfl, _, _, hcell⟩ := HIN.out (by omega)
      have hx := (hcell k (by omega)).1
      have HS := Aside0.mk (cntTo_succ l k hlt)
      clear hcell
      by_cases hv : bitAt l k = true
      all_goals
        go_wp2
        go_round
        case rel => exact ⟨k + 1, by omega, by go_num, by first | (rw [HS.out, if_pos ‹_›]; done) | (rw [HS.out, if_neg ‹_›, Int.add_zero]; done)⟩
        case measure => simp [intOf]; omega
    · obtain rfl : k = l.length := by omega
      go_wp2
      go_ret
      exact ⟨rfl, rfl⟩
/-- The first 0 from place g on, round and round. -/
def firstFrom (l : List Bool) (g : Nat) : Nat → Nat → Int
  | 0, _ => -1
  | d + 1, k => if bitAt l ((g + k) % l.length) = true then firstFrom l g d (k + 1) else (((g + k) % l.length : Nat) : Int)
def goalAt (l : List Bool) (goal : Int) : Nat := if 0 ≤ goal ∧ goal < l.length then goal.toNat else 0
def firstS (l : List Bool) (goal : Int) : Int := firstFrom l (goalAt l goal) l.length 0
theorem firstFrom_on (l : List Bool) (g k : Nat) (h : k < l.length) (hb : bitAt l ((g + k) % l.length) = true) : firstFrom l g (l.length - k) k = firstFrom l g (l.length - (k + 1)) (k + 1) := by
  have e : l.length - k = (l.length - (k + 1)) + 1 := by omega
  rw [e, firstFrom, if_pos hb]
theorem firstFrom_here (l : List Bool) (g k : Nat) (h : k < l.length) (hb : ¬ bitAt l ((g + k) % l.length) = true) : firstFrom l g (l.length - k) k = (((g + k) % l.length : Nat) : Int) := by
  have e : l.length - k = (l.length - (k + 1)) + 1 := by omega
  rw [e, firstFrom, if_neg hb]
theorem firstFrom_end (l : List Bool) (g : Nat) : firstFrom l g (l.length - l.length) l.length = -1 := by rw [Nat.sub_self]; rfl
theorem tmod_nat (a n : Nat) : ((a : Int)).tmod (n : Int) = ((a % n : Nat) : Int) := by rw [Int.tmod_eq_emod_of_nonneg (by omega)]; omega
/-- Where so many 0s side by side begin first: from place i on, f of them stand ahead of it. -/
def runFrom (l : List Bool) (n : Nat) : Nat → Nat → Nat → Int
  | 0, _, _ => -1
  | d + 1, i, f => if (if bitAt l i = true then 0 else f + 1) = n then (i : Int) - n + 1 else runFrom l n d (i + 1) (if bitAt l i = true then 0 else f + 1)
def runS (l : List Bool) (n : Int) : Int := if 1 ≤ n ∧ n ≤ l.length then runFrom l n.toNat l.length 0 0 else -1
theorem runFrom_step (l : List Bool) (n k f f' : Nat) (h : k < l.length) (hf : (if bitAt l k = true then 0 else f + 1) = f') (hn : f' ≠ n) : runFrom l n (l.length - k) k f = runFrom l n (l.length - (k + 1)) (k + 1) f' := by
  have e : l.length - k = (l.length - (k + 1)) + 1 := by omega
  rw [e, runFrom, hf, if_neg hn]
theorem runFrom_here (l : List Bool) (n k f : Nat) (h : k < l.length) (hf : (if bitAt l k = true then 0 else f + 1) = n) : runFrom l n (l.length - k) k f = (k : Int) - n + 1 := by
  have e : l.length - k = (l.length - (k + 1)) + 1 := by omega
  rw [e, runFrom, hf, if_pos rfl]
theorem runFrom_end (l : List Bool) (n f : Nat) : runFrom l n (l.length - l.length) l.length f = -1 := by rw [Nat.sub_self]; rfl
/-- What a store into a row of this type leaves: every block of another type. -/
def TyKeep (t0 : TypeId) (W W' : World) : Prop := W.heap.size ≤ W'.heap.size ∧ ∀ (k : Nat) (cells : Array Value) (t : TypeId), W.heap[k]? = some (Obj.cells cells t (0, 0)) → t ≠ t0 → W'.heap[k]? = W.heap[k]?
theorem TyKeep.refl (t0 : TypeId) (W : World) : TyKeep t0 W W := ⟨Nat.le_refl _, fun _ _ _ _ _ => rfl⟩
theorem TyKeep.set_ {t0 : TypeId} {W : World} {g : Nat} {cs : Array Value} (h : W.heap[g]? = some (.cells cs t0 (0, 0))) (j : Nat) (u : Value) : TyKeep t0 W (W.setCell ⟨g, j, none⟩ u) := by
  refine ⟨by simp [World.setCell], fun k cells t hk ht => Below.heap_setCell W _ u k ?_⟩
  rintro rfl
  have hk := h.symm.trans hk
  injection hk with hk
  injection hk with _ h2
  exact ht h2.symm
theorem R_tykeep {α : Type} {d : Kd α} {e : Nat} {W W' : World} {base : Nat} {ok : Nat → Prop} {v : Value} {xs : List α} {t0 : TypeId} (h : d.R e W base ok v xs) (hk : TyKeep t0 W W') (ht : ∀ q, q ∈ e :: d.E → q ≠ t0) : d.R e W' base ok v xs :=
  Kd.R_mono (Kd.R_move (Kd.R_bound h) (fun k hb => by
    obtain ⟨_, _, _, q, hq, cells, hc⟩ := hb
    exact hk.2 k cells q hc (ht q hq))) (fun k hb => hb.1)
theorem RefRow.tykeep {W W1 : World} {base g : Nat} {l : List Bool} (h : RefRow W base g l) (hk : TyKeep 5 W W1) : RefRow W1 base g l := by
  obtain ⟨A, c, hbk, ho⟩ := h
  exact ⟨A, c, (hk.2 g _ _ hbk (by decide)).trans hbk, R_tykeep ho hk (by decide)⟩
theorem OwnRow_.tykeep {W W1 : World} {base g : Nat} {n : Int} {b : List Int} (h : OwnRow_ W base g n b) (hk : TyKeep 4 W W1) : OwnRow_ W1 base g n b := by
  obtain ⟨A, c, hbk, ho, hg⟩ := h
  exact ⟨A, c, (hk.2 g _ _ hbk (by decide)).trans hbk, R_tykeep ho hk (by decide), hg⟩
/-- The bytes of the first k bits, the others 0. -/
def packTo (l : List Bool) (k : Nat) : List Int := Rowl.pack ((l.take k) ++ List.replicate (l.length - k) false)
theorem packTo_len (l : List Bool) (k : Nat) (h : k ≤ l.length) : (packTo l k).length = (l.length + 7) / 8 := by
  unfold packTo; rw [Rowl.pack_length, List.length_append, List.length_take, List.length_replicate]
  congr 1; omega
theorem getD_replicate (n i : Nat) : (List.replicate n false).getD i false = false := by
  rw [List.getD_eq_getElem?_getD, List.getElem?_replicate]; by_cases h : i < n <;> simp [h]
theorem packTo_zero (l : List Bool) : packTo l 0 = List.replicate ((l.length + 7) / 8) 0 := by
  unfold packTo
  rw [List.take_zero, List.nil_append, Nat.sub_zero]
  unfold Rowl.pack
  rw [List.length_replicate]
  rw [List.eq_replicate_iff]
  refine ⟨by simp, fun b hb => ?_⟩
  obtain ⟨j, _, rfl⟩ := List.mem_map.1 hb
  unfold Rowl.by8
  simp only [getD_replicate]
  rfl
theorem packTo_full (l : List Bool) : packTo l l.length = Rowl.pack l := by
  unfold packTo; rw [List.take_length, Nat.sub_self, List.replicate_zero, List.append_nil]
theorem packTo_off (l : List Bool) (k : Nat) (h : k < l.length) (hb : bitAt l k = false) : packTo l (k + 1) = packTo l k := by
  unfold packTo
  congr 1
  have e : l.length - k = (l.length - (k + 1)) + 1 := by omega
  have hk : l[k] = false := by unfold bitAt at hb; rw [List.getD_eq_getElem?_getD, List.getElem?_eq_getElem h] at hb; exact hb
  rw [List.take_succ_eq_append_getElem h, e, List.replicate_succ, List.append_assoc, hk]; rfl
theorem packTo_on (l : List Bool) (k : Nat) (h : k < l.length) (hb : bitAt l k = true) : packTo l (k + 1) = (packTo l k).set (k / 8) (Go.bits .or .u8 (rd (packTo l k) ((k / 8 : Nat) : Int)) (shl .u8 1 ((k % 8 : Nat) : Int))) := by
  have hl : ((l.take k) ++ List.replicate (l.length - k) false).length = l.length := by rw [List.length_append, List.length_take, List.length_replicate]; omega
  unfold packTo
  rw [Rowl.pack_or _ k (by rw [hl]; exact h)]
  congr 1
  have e : l.length - k = (l.length - (k + 1)) + 1 := by omega
  have hk : l[k] = true := by unfold bitAt at hb; rw [List.getD_eq_getElem?_getD, List.getElem?_eq_getElem h] at hb; exact hb
  rw [List.take_succ_eq_append_getElem h, hk, e, List.replicate_succ, List.append_assoc]
  rw [List.set_append_right _ _ (by rw [List.length_take]; omega)]
  congr 1
  rw [List.length_take, show k - min k l.length = 0 by omega]; rfl
theorem row_len (l : List Bool) (h : l.length ≤ 4096) : rowBytes (l.length : Int) = (((l.length + 7) / 8 : Nat) : Int) := by
  unfold rowBytes; rw [Int.tdiv_eq_ediv_of_nonneg (by omega)]; omega
set_option maxHeartbeats 1600000 in
set_option maxRecDepth 100000 in
theorem ref_Bytes_calls (gp : Nat) (l : List Bool) (base : Nat) (w : World) (hI : RefRow w base gp l) (hl : l.length ≤ 4096) :
    Calls Try.prog 93 #[.pointer (some ⟨gp, 0, none⟩)] w fun e w' => ∃ v, e = .returned v ∧ Kd.R (Kd.int .u8) 5 w' w.heap.size (fun _ => True) v (Rowl.pack l) ∧ Below w.heap.size w w' := by
  have HI := Aside0.mk hI
  obtain ⟨A, c, hc0, hf0, hlc, hin⟩ := hI.open_
  have HIN := Aside0.mk hin
  have info5 : (Try.prog.info? 5).map (fun i => (i.zero, i.size, i.bytes)) = some (some (.int .u8 0), 1, 1) := by kernel_rfl
  clear hI hin
  obtain ⟨j, hj⟩ : ∃ j : Nat, j = (l.length + 7) / 8 := ⟨_, rfl⟩
  have hj1 : j ≤ 512 := by omega
  have e3 : ((l.length : Int) + 7).tdiv 8 = (j : Int) := by rw [Int.tdiv_eq_ediv_of_nonneg (by omega)]; omega
  have HZ := Aside0.mk (packTo_zero l)
  rw [← hj] at HZ
  have HJ := Aside0.mk hj
  clear hj
  go_enter Try.func93, Try.ntmps93
  go_wp2_with (first
    | ((with_reducible refine gate_dst (N := 12) rfl ?_); go_must (refine Kd.R_make (Kd.int .u8) _ 5 rfl (N := 12) rfl 23 _ _ rfl (j : Int) rfl rfl Try.underlying23 (.int .u8 0) 1 info5 rfl (by decide) (by omega) 0 (ok := fun _ => True) (okp := fun _ => True) rfl (fun _ hk => hk) trivial (by omega) (by omega) (Below.refl _ _) (Nat.le_refl _) ?_); intro v w1 ho hb hg_ hnew_; clear hg_ hnew_; obtain ⟨A2, c2, rfl⟩ := Kd.R_slice ho; rw [List.length_replicate, Int.toNat_natCast] at ho; have HO1 := Aside0.mk ho; have HB1 := Aside0.mk hb; replace hc0 := pw_cell_below hb hc0; have hi1 := Aside0.mk (HI.out.below hb); clear ho hb HI HIN))
  go_loopw [18] (fun i wr => ∃ k : Nat, k ≤ l.length ∧ i = .int .i64 k ∧ Aside0 (Kd.R (Kd.int .u8) 5 wr w.heap.size (fun _ => True) (.slice A2 j c2) (packTo l k)) ∧ Aside0 (Below w.heap.size w wr) ∧ Aside0 (RefRow wr base gp l)) (fun i _ => l.length - (intOf i).toNat)
  case atStart => exact ⟨0, Nat.zero_le _, rfl, by rw [HZ.out]; exact HO1, HB1, hi1⟩
  case round =>
    obtain ⟨k, hk, rfl, HO, HB, HI⟩ := hrel
    obtain ⟨A, c, hc0, hf0, hlc, hin⟩ := HI.out.open_
    have HIN := Aside0.mk hin
    clear hin
    by_cases hlt : k < l.length
    · obtain ⟨ga, rfl, _, _, hcell⟩ := HIN.out (by omega)
      have hx := (hcell k hlt).1
      clear hcell HIN
      by_cases hv : bitAt l k = true
      · have HS := Aside0.mk (packTo_on l k hlt hv)
        obtain ⟨q, hq⟩ : ∃ q, k / 8 = q := ⟨_, rfl⟩
        obtain ⟨tm, htm⟩ : ∃ tm, k % 8 = tm := ⟨_, rfl⟩
        have hqj : q < j := by have := HJ.out; omega
        have hpl : (packTo l k).length = j := by rw [packTo_len l k hk, HJ.out]
        have ht8 : tm < 8 := by omega
        rw [hq, htm] at HS
        obtain ⟨ga2, ca2, hform, gb2, _⟩ := Kd.R_form HO.out (by omega)
        injection hform with hA hln hcc
        subst hA
        clear hln hcc
        have hy := Kd.R_celln 0 HO.out (q : Int) (by omega) (by omega)
        have hy1 : wr.cell? ⟨ga2, q, none⟩ = some (.int .u8 (rd (packTo l k) (q : Int))) := hy.1
        have hy2 : wr.frozen? ⟨ga2, q, none⟩ = false := hy.2
        obtain ⟨sv, hsv⟩ : ∃ sv, shl .u8 1 (tm : Int) = sv := ⟨_, rfl⟩
        have e6 : (2 : Int) ^ min ((tm : Int)).toNat 8 % 256 = sv := by rw [← hsv]; unfold shl; rw [IntKind.wrap_u8, Int.one_mul]; rfl
        have e61 : IntKind.u8.wrap ((2 : Int) ^ min tm 8) = sv := by rw [← hsv]; unfold shl; rw [Int.one_mul]; rfl
        rw [hsv] at HS
        have q1 : ((k : Int)).tdiv 8 = (q : Int) := by rw [Int.tdiv_eq_ediv_of_nonneg (by omega)]; omega
        have q2 : ((k : Int)).tmod 8 = (tm : Int) := by rw [Int.tmod_eq_emod_of_nonneg (by omega)]; omega
        have p4 : decide (0 ≤ (tm : Int)) = true := decide_eq_true (by omega)
        have q5 : IntKind.i64.wrap (q : Int) = (q : Int) := by rw [i64_w]; unfold wrap64; omega
        obtain ⟨y, hy0⟩ : ∃ y, rd (packTo l k) (q : Int) = y := ⟨_, rfl⟩
        rw [hy0] at hy1 HS
        have HP := Aside0.mk (Kd.R_putg HO.out (q : Int) (Go.bits .or .u8 y sv)).1
        have GB := Aside0.mk gb2
        obtain ⟨cells, hty⟩ := Kd.R_typed HO.out ga2 rfl
        have HTK := Aside0.mk (TyKeep.set_ hty q (.int .u8 (Go.bits .or .u8 y sv)))
        clear hty
        have hqll : (q : Int) < (j : Int) := by omega
        have HQ := Aside0.mk hq
        have HT := Aside0.mk htm
        have HSV := Aside0.mk hsv
        clear hy hq htm hsv hy0 gb2 hpl
        go_upto_region 6 with (fail)
        go_region
        go_wp2
        have esv : (2 : Int) ^ tm % 256 = sv := by rw [← HSV.out]; unfold shl; rw [Int.toNat_natCast, Nat.min_eq_left (by simp [IntKind.bits]; omega), IntKind.wrap_u8, Int.one_mul]
        rw [esv]
        go_roundw
        case rel => exact ⟨k + 1, by omega, by go_num, ⟨by rw [HS.out]; exact Kd.R_drew HP.out⟩, ⟨(HB.out.setCell GB.out _).drew⟩, ⟨(HI.out.tykeep HTK.out).below (below_drew (Below.refl _ _))⟩⟩
        case measure => simp [intOf]; omega
      · have HS := Aside0.mk (packTo_off l k hlt (Bool.eq_false_iff.2 hv))
        go_wp2
        go_roundw
        case rel => exact ⟨k + 1, by omega, by go_num, by rw [HS.out]; exact HO, HB, HI⟩
        case measure => simp [intOf]; omega
    · obtain rfl : k = l.length := by omega
      have HF := Aside0.mk (packTo_full l)
      go_wp2
      go_ret
      exact ⟨_, rfl, by have h := HO.out; rw [HF.out] at h; exact h, HB.out⟩
/-- Bit i of bytes. -/
def bitOf (b : List Int) (i : Nat) : Bool := (rd b ((i / 8 : Nat) : Int)).toNat.testBit (i % 8)
/-- The row of n bits, the first k as these bytes tell. -/
def rowTo (n : Nat) (b : List Int) (k : Nat) : List Bool := (Rowl.unpack n b).take k ++ List.replicate (n - k) false
theorem rowTo_len (n : Nat) (b : List Int) (k : Nat) : (rowTo n b k).length = n := by
  unfold rowTo; rw [List.length_append, List.length_take, Rowl.unpack_length, List.length_replicate]; omega
theorem rowTo_zero (n : Nat) (b : List Int) : rowTo n b 0 = List.replicate n false := by unfold rowTo; rw [List.take_zero, List.nil_append, Nat.sub_zero]
theorem rowTo_full (n : Nat) (b : List Int) (k : Nat) (h : n ≤ k) : rowTo n b k = Rowl.unpack n b := by
  unfold rowTo; rw [List.take_of_length_le (by rw [Rowl.unpack_length]; exact h), show n - k = 0 by omega, List.replicate_zero, List.append_nil]
theorem rowTo_step (n : Nat) (b : List Int) (k : Nat) (h : k < n) : rowTo n b (k + 1) = (rowTo n b k).set k (bitOf b k) := by
  have hk : k < (Rowl.unpack n b).length := by rw [Rowl.unpack_length]; exact h
  have hv : (Rowl.unpack n b)[k] = bitOf b k := by
    have := Rowl.unpack_get n b k h
    rw [List.getD_eq_getElem?_getD, List.getElem?_eq_getElem hk] at this
    exact this
  unfold rowTo
  have e : n - k = (n - (k + 1)) + 1 := by omega
  rw [List.take_succ_eq_append_getElem hk, hv, e, List.replicate_succ, List.append_assoc, List.set_append_right _ _ (by rw [List.length_take]; omega)]
  congr 1
  rw [List.length_take, show k - min k (Rowl.unpack n b).length = 0 by omega]; rfl
theorem rowTo_past (n : Nat) (b : List Int) (k : Nat) (h : n ≤ k) : rowTo n b (k + 1) = rowTo n b k := by rw [rowTo_full n b k h, rowTo_full n b (k + 1) (by omega)]
theorem rd_range {b : List Int} (hb : Num.Bytes b) (q : Nat) (h : q < b.length) : 0 ≤ rd b (q : Int) ∧ rd b (q : Int) ≤ 255 := by
  unfold rd
  rw [List.getD_eq_getElem?_getD, Int.toNat_natCast, List.getElem?_eq_getElem h]
  exact hb.get h
/-- A bit as the code reads it. -/
theorem bitOf_and {b : List Int} (hb : Num.Bytes b) (i : Nat) (h : i / 8 < b.length) : (Go.bits .and .u8 (rd b ((i / 8 : Nat) : Int) / 2 ^ (i % 8)) 1 == 1) = bitOf b i := by
  have hr := rd_range hb (i / 8) h
  have h2 := Rowl.and_bit ⟨(rd b ((i / 8 : Nat) : Int)).toNat, by omega⟩ ⟨i % 8, by omega⟩
  simp only at h2
  rw [show (((rd b ((i / 8 : Nat) : Int)).toNat : Nat) : Int) = rd b ((i / 8 : Nat) : Int) by omega] at h2
  exact h2
theorem shr_zero_iff {x : Int} (h0 : 0 ≤ x) (h1 : x ≤ 255) {t : Nat} (ht : t < 8) : shr .u8 x (t : Int) = 0 ↔ ∀ u, t ≤ u → u < 8 → x.toNat.testBit u = false := by
  obtain ⟨n, rfl⟩ := Int.eq_ofNat_of_zero_le h0
  have : ∀ (n : Fin 256) (t : Fin 8), (shr .u8 (n.val : Int) (t.val : Int) == 0) = (List.range 8).all (fun u => !decide (t.val ≤ u) || !n.val.testBit u) := by decide +kernel
  have h := this ⟨n, by omega⟩ ⟨t, ht⟩
  simp only at h
  rw [Int.toNat_natCast]
  constructor
  · intro e u hu1 hu2
    rw [e] at h
    have h := List.all_eq_true.1 h.symm u (List.mem_range.2 hu2)
    simpa [hu1] using h
  · intro hu
    rw [← beq_iff_eq, h, List.all_eq_true]
    intro u hm
    by_cases c : t ≤ u
    · simp [c, hu u c (List.mem_range.1 hm)]
    · simp [c]
/-- Bytes are a row's just where no bit stands behind its end. -/
theorem ofOk_iff {n : Int} {b : List Int} (hb : Num.Bytes b) : OfOk n b ↔ (0 ≤ n ∧ n ≤ 4096 ∧ (b.length : Int) = rowBytes n ∧ ∀ i : Nat, n ≤ i → i < 8 * b.length → bitOf b i = false) := by
  unfold OfOk
  constructor
  · rintro ⟨h0, h1, h2, h3⟩
    refine ⟨h0, h1, h2, fun i hi1 hi2 => ?_⟩
    obtain ⟨n, rfl⟩ := Int.eq_ofNat_of_zero_le h0
    have hl : b.length = (n + 7) / 8 := by unfold rowBytes at h2; rw [Int.tdiv_eq_ediv_of_nonneg (by omega)] at h2; omega
    rw [show ((n : Int)).tmod 8 = ((n % 8 : Nat) : Int) from tmod_nat n 8] at h3
    rcases h3 with h3 | h3
    · omega
    · by_cases c : n % 8 = 0
      · omega
      · have e1 : i / 8 = b.length - 1 := by omega
        have hr := rd_range hb (b.length - 1) (by omega)
        rw [show ((b.length : Int) - 1) = ((b.length - 1 : Nat) : Int) by omega] at h3
        have := (shr_zero_iff hr.1 hr.2 (by omega)).1 h3 (i % 8) (by omega) (by omega)
        unfold bitOf
        rw [e1]; exact this
  · rintro ⟨h0, h1, h2, h3⟩
    refine ⟨h0, h1, h2, ?_⟩
    obtain ⟨n, rfl⟩ := Int.eq_ofNat_of_zero_le h0
    have hl : b.length = (n + 7) / 8 := by unfold rowBytes at h2; rw [Int.tdiv_eq_ediv_of_nonneg (by omega)] at h2; omega
    rw [show ((n : Int)).tmod 8 = ((n % 8 : Nat) : Int) from tmod_nat n 8]
    by_cases c : n % 8 = 0
    · left; omega
    · right
      have hr := rd_range hb (b.length - 1) (by omega)
      rw [show ((b.length : Int) - 1) = ((b.length - 1 : Nat) : Int) by omega]
      refine (shr_zero_iff hr.1 hr.2 (by omega)).2 (fun u hu1 hu2 => ?_)
      have := h3 (8 * (b.length - 1) + u) (by omega) (by omega)
      unfold bitOf at this
      rw [show (8 * (b.length - 1) + u) / 8 = b.length - 1 by omega, show (8 * (b.length - 1) + u) % 8 = u by omega] at this
      exact this
theorem pack_of {n : Nat} {b : List Int} (hb : Num.Bytes b) (h : OfOk (n : Int) b) : Rowl.pack (Rowl.unpack n b) = b := by
  obtain ⟨h0, h1, h2, h3⟩ := (ofOk_iff hb).1 h
  have hl : b.length = (n + 7) / 8 := by unfold rowBytes at h2; rw [Int.tdiv_eq_ediv_of_nonneg (by omega)] at h2; omega
  exact Rowl.pack_unpack n b hb hl (fun i hi1 hi2 => h3 i (by omega) hi2)
/-- A bit stands behind the row's end: the first. -/
theorem first_bad {n : Nat} {b : List Int} (h : ¬ ∀ i : Nat, n ≤ i → i < 8 * b.length → bitOf b i = false) : ∃ m, n ≤ m ∧ m < 8 * b.length ∧ bitOf b m = true ∧ ∀ i, n ≤ i → i < m → bitOf b i = false := by
  have hex : ∃ m, n ≤ m ∧ m < 8 * b.length ∧ bitOf b m = true := by
    false_or_by_contra
    rename_i hc
    refine h (fun i h1 h2 => ?_)
    cases hb : bitOf b i with
    | false => rfl
    | true => exact absurd ⟨i, h1, h2, hb⟩ hc
  have : ∀ d m, m - n ≤ d → n ≤ m → m < 8 * b.length → bitOf b m = true → ∃ m, n ≤ m ∧ m < 8 * b.length ∧ bitOf b m = true ∧ ∀ i, n ≤ i → i < m → bitOf b i = false := by
    intro d
    induction d with
    | zero => exact fun m hd h1 h2 h3 => ⟨m, h1, h2, h3, fun i a b => by omega⟩
    | succ d ih =>
      intro m hd h1 h2 h3
      by_cases c : ∃ i, n ≤ i ∧ i < m ∧ bitOf b i = true
      · obtain ⟨i, a1, a2, a3⟩ := c
        exact ih i (by omega) a1 (by omega) a3
      · refine ⟨m, h1, h2, h3, fun i a1 a2 => ?_⟩
        cases hb : bitOf b i with
        | false => rfl
        | true => exact absurd ⟨i, a1, a2, hb⟩ c
  obtain ⟨m, h1, h2, h3⟩ := hex
  exact this _ m (Nat.le_refl _) h1 h2 h3
set_option maxRecDepth 100000 in
theorem ref_Of_arg (n : Int) (A0 : Option Addr) (c0 : Nat) (b : List Int) (w : World) (h : n < 0 ∨ 4096 < n) :
    Calls Try.prog 99 #[.int .i64 n, .slice A0 b.length c0] w fun e w' => e = .returned (.tuple #[.pointer none, .int .i64 1]) ∧ Below w.heap.size w w' := by
  by_cases h0 : n < 0
  · have q1 : decide (n < 0) = true := decide_eq_true h0
    clear h h0
    go_enter Try.func99, Try.ntmps99
    go_wp2
    go_ret2
    exact ⟨rfl, Below.refl _ _⟩
  · have q1 : decide (n < 0) = false := decide_eq_false h0
    have q2 : decide (4096 < n) = true := decide_eq_true (by omega)
    clear h h0
    go_enter Try.func99, Try.ntmps99
    go_wp2
    go_ret2
    exact ⟨rfl, Below.refl _ _⟩
set_option maxHeartbeats 800000 in
set_option maxRecDepth 100000 in
theorem ref_Of_len (n : Int) (A0 : Option Addr) (c0 : Nat) (b : List Int) (w : World) (h0 : 0 ≤ n) (h1 : n ≤ 4096) (h2 : (b.length : Int) ≠ rowBytes n) (hb : b.length ≤ 1000000) :
    Calls Try.prog 99 #[.int .i64 n, .slice A0 b.length c0] w fun e w' => e = .returned (.tuple #[.pointer none, .int .i64 18]) ∧ Below w.heap.size w w' := by
  have q1 : decide (n < 0) = false := decide_eq_false (by omega)
  have q2 : decide (4096 < n) = false := decide_eq_false (by omega)
  obtain ⟨j, hj⟩ : ∃ j, (n + 7).tdiv 8 = j := ⟨_, rfl⟩
  have hj0 : 0 ≤ j ∧ j ≤ 512 := by rw [← hj]; exact rowBytes_0 h0 h1
  have q3 : ((b.length : Int) != j) = true := bne_iff_ne.2 (by rw [← hj]; exact h2)
  have q4 : IntKind.i64.wrap j = j := by rw [i64_w]; unfold wrap64; omega
  clear h2
  go_enter Try.func99, Try.ntmps99
  go_wp2_with (first
    | (go_at_call 114; go_must (refine (ref_New_calls n _).mono ?_); rintro e w1 ⟨g, rfl, ho, hg, hb1⟩; have HB1 := Aside0.mk hb1; clear ho hg hb1))
  go_ret2
  exact ⟨rfl, HB1.out⟩
/-- What Of answers where the first bit behind the row's end stands at m. -/
def OfPost (m n : Nat) (b : List Int) (w : World) (e : Ending) (w' : World) : Prop := if m = 8 * b.length then ∃ g, e = .returned (.tuple #[.pointer (some ⟨g, 0, none⟩), .int .i64 0]) ∧ RefRow w' w.heap.size g (Rowl.unpack n b) ∧ w.heap.size ≤ g else e = .returned (.tuple #[.pointer none, .int .i64 18])
set_option maxHeartbeats 1600000 in
set_option maxRecDepth 100000 in
theorem ref_Of_loop (n : Nat) (A0 : Option Addr) (c0 : Nat) (b : List Int) (w : World) (hr0 : Kd.C (Kd.int .u8) w A0 b.length b) (h1 : n ≤ 4096) (h2 : (b.length : Int) = rowBytes n) (hby : Num.Bytes b) (m : Nat) (hm : n ≤ m) (hm2 : m ≤ 8 * b.length) (hok : ∀ i, n ≤ i → i < m → bitOf b i = false) (hbad : m < 8 * b.length → bitOf b m = true) :
    Calls Try.prog 99 #[.int .i64 n, .slice A0 b.length c0] w fun e w' => OfPost m n b w e w' ∧ Below w.heap.size w w' := by
  have q1 : decide ((n : Int) < 0) = false := decide_eq_false (by omega)
  have q2 : decide (4096 < (n : Int)) = false := decide_eq_false (by omega)
  have q22 : decide (4096 < n) = false := decide_eq_false (by omega)
  obtain ⟨j, hj⟩ : ∃ j, ((n : Int) + 7).tdiv 8 = j := ⟨_, rfl⟩
  have hjb : (b.length : Int) = j := by rw [h2, ← hj]; rfl
  have hj0 : 0 ≤ j ∧ j ≤ 512 := by rw [← hj]; exact rowBytes_0 (by omega) (by omega)
  have hjn : b.length = (n + 7) / 8 := by rw [Int.tdiv_eq_ediv_of_nonneg (by omega)] at hj; omega
  have q3 : ((b.length : Int) != j) = false := by rw [hjb]; simp
  have HJB := Aside0.mk hjb
  have HJN := Aside0.mk hjn
  have q4 : IntKind.i64.wrap j = j := by rw [i64_w]; unfold wrap64; omega
  have HR := Aside0.mk hr0
  have HBY := Aside0.mk hby
  have HOK := Aside0.mk hok
  have HBAD := Aside0.mk hbad
  have hbl : b.length ≤ 512 := by omega
  have q5 : IntKind.i64.wrap (8 * (b.length : Int)) = 8 * (b.length : Int) := by rw [i64_w]; unfold wrap64; omega
  have HCR : Aside0 (clampRow (n : Int) = (n : Int)) := ⟨clampRow_in (by omega) (by omega)⟩
  clear h2 hjb hjn hr0 hby hok hbad
  go_enter Try.func99, Try.ntmps99
  go_wp2_with (first
    | (go_at_call 114; go_must (refine (ref_New_calls n _).mono ?_); rintro e w1 ⟨g, rfl, ho, hg, hb1⟩; rw [HCR.out, Int.toNat_natCast, ← rowTo_zero n b] at ho; have HO := Aside0.mk ho; have HG := Aside0.mk hg; have HB1 := Aside0.mk hb1; clear ho hg hb1))
  go_loopw [26] (fun i wr => ∃ k : Nat, k ≤ m ∧ i = .int .i64 k ∧ Aside0 (RefRow wr w.heap.size g (rowTo n b k)) ∧ Aside0 (Below w.heap.size w wr)) (fun i _ => 8 * b.length - (intOf i).toNat)
  case atStart => exact ⟨0, Nat.zero_le _, rfl, HO, HB1⟩
  case round =>
    obtain ⟨k, hk, rfl, HO, HB⟩ := hrel
    by_cases hlt : k < 8 * b.length
    · obtain ⟨q, hq⟩ : ∃ q, k / 8 = q := ⟨_, rfl⟩
      obtain ⟨tm, htm⟩ : ∃ tm, k % 8 = tm := ⟨_, rfl⟩
      have hqb : q < b.length := by omega
      have ht8 : tm < 8 := by omega
      have hbit := bitOf_and HBY.out k (by omega)
      rw [hq, htm] at hbit
      have w1q : ((k : Int)).tdiv 8 = (q : Int) := by rw [Int.tdiv_eq_ediv_of_nonneg (by omega)]; omega
      have w2q : ((k : Int)).tmod 8 = (tm : Int) := by rw [Int.tmod_eq_emod_of_nonneg (by omega)]; omega
      have w3q : IntKind.i64.wrap (q : Int) = (q : Int) := by rw [i64_w]; unfold wrap64; omega
      have p4 : decide (0 ≤ (tm : Int)) = true := decide_eq_true (by omega)
      obtain ⟨ad, hA, hy⟩ := Kd.at_int HR.out (q : Int) (by omega) (by omega)
      subst hA
      rw [Int.toNat_natCast] at hy
      have hy1 := pw_cell_below HB.out hy
      obtain ⟨y, hy0⟩ : ∃ y, rd b (q : Int) = y := ⟨_, rfl⟩
      rw [hy0] at hy1 hbit
      obtain ⟨z, hz⟩ : ∃ z, y / 2 ^ tm = z := ⟨_, rfl⟩
      have hz2 : y / 2 ^ min tm 8 = z := by rw [Nat.min_eq_left (by omega)]; exact hz
      rw [hz] at hbit
      clear hq htm hy hy0
      by_cases hkn : k < n
      · have HS := Aside0.mk (rowTo_step n b k hkn)
        obtain ⟨on, hon⟩ : ∃ on, bitOf b k = on := ⟨_, rfl⟩
        rw [hon] at hbit HS
        have hkl : k < (rowTo n b k).length := by rw [rowTo_len]; exact hkn
        clear hon
        obtain ⟨l, hl⟩ : ∃ l, rowTo n b k = l := ⟨_, rfl⟩
        rw [hl] at HO HS hkl
        have hln : l.length = n := by rw [← hl, rowTo_len]
        obtain ⟨A, c, hbk, ho⟩ := HO.out
        obtain ⟨ga, ca, hform, gb, _⟩ := Kd.R_form ho (by omega)
        injection hform with hA _ _
        subst hA
        have HNE := Aside0.mk (show g ≠ ga from fun e => absurd (ho.1 ga rfl) (by rw [e]; exact Nat.lt_irrefl _))
        have BK := Aside0.mk hbk
        have GB := Aside0.mk gb
        have hc0 : wr.cell? ⟨g, 0, none⟩ = some (.slice (some ⟨ga, 0, none⟩) l.length c) := (blk_cell BK.out 0).trans rfl
        have hf0 := blk_frozen BK.out 0
        have hx := Kd.R_cell false ho (k : Int) (by omega) (by omega)
        have hx1 : wr.cell? ⟨ga, k, none⟩ = some (.bool (bitAt l k)) := hx.1
        have hx2 : wr.frozen? ⟨ga, k, none⟩ = false := hx.2
        have HP : Aside0 (Kd.R Kd.bool 4 (wr.setCell ⟨ga, k, none⟩ (.bool on)) w.heap.size (fun i => i < g) (.slice (some ⟨ga, 0, none⟩) l.length c) (l.set k on)) := ⟨(Kd.R_putg ho (k : Int) on).1⟩
        have HM : Aside0 (k + 1 ≤ m) := ⟨by omega⟩
        have HLN := Aside0.mk hln
        clear hbk ho gb hx hl hln
        go_wp2
        go_roundw
        case rel => exact ⟨k + 1, HM.out, by go_num, ⟨by rw [HS.out]; exact ⟨some ⟨ga, 0, none⟩, c, by rw [List.length_set]; exact blk_far BK.out HNE.out _, by rw [List.length_set]; exact HP.out⟩⟩, ⟨HB.out.setCell GB.out _⟩⟩
        case measure => simp [intOf]; omega
      · have hkn' : decide ((k : Int) < (n : Int)) = false := decide_eq_false (by omega)
        cases hbk : bitOf b k with
        | true =>
          rw [hbk] at hbit
          have hkm : k = m := by
            false_or_by_contra
            have := HOK.out k (by omega) (by omega)
            rw [this] at hbk; cases hbk
          have HIF : Aside0 (¬ m = 8 * b.length) := ⟨by omega⟩
          clear hbk hkm
          go_wp2
          go_ret2
          exact ⟨by unfold OfPost; rw [if_neg HIF.out]; rfl, HB.out⟩
        | false =>
          rw [hbk] at hbit
          have hkm : k + 1 ≤ m := by
            false_or_by_contra
            have := HBAD.out (by omega)
            rw [show m = k by omega, hbk] at this; cases this
          have HM := Aside0.mk hkm
          have HS := Aside0.mk (rowTo_past n b k (by omega))
          clear hbk hkm
          go_wp2
          go_roundw
          case rel => exact ⟨k + 1, HM.out, by go_num, by rw [HS.out]; exact HO, HB⟩
          case measure => simp [intOf]; omega
    · have HM : Aside0 (m = 8 * b.length) := ⟨by omega⟩
      have HF := Aside0.mk (rowTo_full n b k (by omega))
      rw [HF.out] at HO
      have hd : decide ((k : Int) < 8 * (b.length : Int)) = false := decide_eq_false (by omega)
      go_wp2
      go_ret2
      exact ⟨by unfold OfPost; rw [if_pos HM.out]; exact ⟨g, rfl, HO.out, HG.out⟩, HB.out⟩
theorem ref_Of_ok (n : Nat) (A0 : Option Addr) (c0 : Nat) (b : List Int) (w : World) (hr0 : Kd.C (Kd.int .u8) w A0 b.length b) (hby : Num.Bytes b) (h : OfOk (n : Int) b) :
    Calls Try.prog 99 #[.int .i64 n, .slice A0 b.length c0] w fun e w' => ∃ g, e = .returned (.tuple #[.pointer (some ⟨g, 0, none⟩), .int .i64 0]) ∧ RefRow w' w.heap.size g (Rowl.unpack n b) ∧ w.heap.size ≤ g ∧ Below w.heap.size w w' := by
  obtain ⟨h0, h1, h2, h3⟩ := (ofOk_iff hby).1 h
  have hjn : n ≤ 8 * b.length := by unfold rowBytes at h2; rw [Int.tdiv_eq_ediv_of_nonneg (by omega)] at h2; omega
  refine (ref_Of_loop n A0 c0 b w hr0 (by omega) h2 hby (8 * b.length) hjn (Nat.le_refl _) (fun i a1 a2 => h3 i (by omega) a2) (fun hx => by omega)).mono ?_
  rintro e w' ⟨he, hb⟩
  unfold OfPost at he
  rw [if_pos rfl] at he
  obtain ⟨g, he, ho, hg⟩ := he
  exact ⟨g, he, ho, hg, hb⟩
theorem ref_Of_bad (n : Int) (A0 : Option Addr) (c0 : Nat) (b : List Int) (w : World) (hr0 : Kd.C (Kd.int .u8) w A0 b.length b) (hby : Num.Bytes b) (hbl : b.length ≤ 1000000) (h : ¬ OfOk n b) :
    Calls Try.prog 99 #[.int .i64 n, .slice A0 b.length c0] w fun e w' => e = .returned (.tuple #[.pointer none, .int .i64 (ofErr n)]) ∧ Below w.heap.size w w' := by
  by_cases h0 : n < 0 ∨ 4096 < n
  · rw [show ofErr n = 1 from if_pos h0]; exact ref_Of_arg n A0 c0 b w h0
  · rw [show ofErr n = 18 from if_neg h0]
    by_cases h2 : (b.length : Int) = rowBytes n
    · obtain ⟨n, rfl⟩ := Int.eq_ofNat_of_zero_le (show 0 ≤ n by omega)
      have h3 : ¬ ∀ i : Nat, n ≤ i → i < 8 * b.length → bitOf b i = false := fun h3 => h ((ofOk_iff hby).2 ⟨by omega, by omega, h2, fun i a1 a2 => h3 i (by omega) a2⟩)
      obtain ⟨m, m1, m2, m3, m4⟩ := first_bad h3
      refine (ref_Of_loop n A0 c0 b w hr0 (by omega) h2 hby m m1 (by omega) m4 (fun _ => m3)).mono ?_
      rintro e w' ⟨he, hb⟩
      unfold OfPost at he
      rw [if_neg (by omega)] at he
      exact ⟨he, hb⟩
    · exact ref_Of_len n A0 c0 b w (by omega) (by omega) h2 hbl
/-- A row of bits of the program's own, as a list of bits. -/
def BRow (W : World) (base g : Nat) (l : List Bool) : Prop := OwnRow_ W base g (l.length : Int) (Rowl.pack l)
theorem BRow.below {W W1 : World} {base g : Nat} {l : List Bool} (h : BRow W base g l) (hb : Below W.heap.size W W1) : BRow W1 base g l := by
  obtain ⟨A, c, hbk, ho, hg⟩ := h
  exact ⟨A, c, blk_below hbk hb, Kd.R_below ho hb, hg⟩
theorem BRow.tykeep {W W1 : World} {base g : Nat} {l : List Bool} (h : BRow W base g l) (hk : TyKeep 4 W W1) : BRow W1 base g l := OwnRow_.tykeep h hk
set_option maxHeartbeats 800000 in
set_option maxRecDepth 100000 in
theorem bits_Bytes_calls (g : Nat) (l : List Bool) (base : Nat) (w : World) (hI : BRow w base g l) (hl : l.length ≤ 4096) :
    Calls Try.prog 90 #[.pointer (some ⟨g, 0, none⟩)] w fun e w' => ∃ v, e = .returned v ∧ Kd.R (Kd.int .u8) 5 w' w.heap.size (fun _ => True) v (Rowl.pack l) ∧ Below w.heap.size w w' := by
  obtain ⟨A, c, hbk, ho, hg⟩ := hI
  have hc1 : w.cell? ⟨g, 1, none⟩ = some (.slice A (Rowl.pack l).length c) := (blk_cell hbk 1).trans rfl
  have hf1 := blk_frozen hbk 1
  have HR := Aside0.mk (Kd.R_reads' ho).2
  have HF : Aside0 (slices_Clone_byte_byte.f (Rowl.pack l) = some (Rowl.pack l)) := ⟨if_pos (by rw [Rowl.pack_length]; omega)⟩
  clear hbk ho hg
  go_enter Try.func90, Try.ntmps90
  go_wp2_with (first
    | (go_at_call 102; go_must (refine (slices_Clone_byte_byte.calls A c (Rowl.pack l) (Rowl.pack l) w HR.out.2 HR.out.1 HF.out).mono ?_); rintro e w1 ⟨v, rfl, ho, hb⟩; have HO := Aside0.mk ho; have HB := Aside0.mk hb; clear ho hb))
  go_ret
  exact ⟨v, rfl, HO.out, HB.out⟩
theorem BRow.open_ {W : World} {base g : Nat} {l : List Bool} (h : BRow W base g l) : ∃ A c, W.cell? ⟨g, 0, none⟩ = some (.int .i64 (l.length : Int)) ∧ W.cell? ⟨g, 1, none⟩ = some (.slice A (Rowl.pack l).length c) ∧ W.frozen? ⟨g, 0, none⟩ = false ∧ W.frozen? ⟨g, 1, none⟩ = false ∧ (0 < l.length → ∃ ga, A = some ⟨ga, 0, none⟩ ∧ base ≤ ga ∧ ga ≠ g ∧ ∀ q : Nat, q < (l.length + 7) / 8 → W.cell? ⟨ga, q, none⟩ = some (.int .u8 (rd (Rowl.pack l) q)) ∧ W.frozen? ⟨ga, q, none⟩ = false) := by
  obtain ⟨A, c, hbk, ho, hg⟩ := h
  refine ⟨A, c, (blk_cell hbk 0).trans rfl, (blk_cell hbk 1).trans rfl, blk_frozen hbk 0, blk_frozen hbk 1, fun hp => ?_⟩
  have hpl := Rowl.pack_length l
  obtain ⟨ga, ca, hform, gb, _⟩ := Kd.R_form ho (by omega)
  injection hform with hA hln hcc
  subst hA
  refine ⟨ga, rfl, gb, fun e => absurd (ho.1 ga rfl) (by rw [e]; exact Nat.lt_irrefl _), fun k hk => ?_⟩
  exact Kd.R_cell 0 ho (k : Int) (by omega) (by omega)
set_option maxRecDepth 100000 in
theorem bits_Len_calls (g : Nat) (l : List Bool) (base : Nat) (w : World) (hI : BRow w base g l) :
    Calls Try.prog 88 #[.pointer (some ⟨g, 0, none⟩)] w fun e w' => e = .returned (.int .i64 (l.length : Int)) ∧ w = w' := by
  obtain ⟨A, c, hc0, hc1, hf0, hf1, hin⟩ := hI.open_
  clear hI hin
  go_enter Try.func88, Try.ntmps88
  go_wp2
  go_ret
  exact ⟨rfl, rfl⟩
theorem runFrom_big (l : List Bool) (n : Nat) (d : Nat) : ∀ k f, k + d = l.length → f ≤ k → l.length < n → runFrom l n d k f = -1 := by
  induction d with
  | zero => exact fun k f _ _ _ => rfl
  | succ d ih =>
    intro k f h1 h2 h3
    rw [runFrom]
    have hf : (if bitAt l k = true then 0 else f + 1) ≤ k + 1 := by by_cases c : bitAt l k = true <;> simp [c] <;> omega
    rw [if_neg (by omega)]
    exact ih (k + 1) _ (by omega) hf h3
theorem runS_from {l : List Bool} {n : Nat} (h : 1 ≤ n) : runS l (n : Int) = runFrom l n (l.length - 0) 0 0 := by
  unfold runS
  by_cases c : n ≤ l.length
  · rw [if_pos (by omega), Int.toNat_natCast]; rfl
  · rw [if_neg (by omega), runFrom_big l n _ 0 0 (by omega) (by omega) (by omega)]
def cntS (l : List Bool) : Nat → Nat
  | 0 => 0
  | k + 1 => cntS l k + (bitAt l k).toNat
theorem cntTo_S (l : List Bool) (k : Nat) (h : k ≤ l.length) : cntTo l k = (cntS l k : Int) := by
  induction k with
  | zero => rfl
  | succ k ih =>
    rw [cntTo_succ l k (by omega), ih (by omega), cntS]
    cases bitAt l k <;> simp
theorem bitAt_out (l : List Bool) (k : Nat) (h : l.length ≤ k) : bitAt l k = false := by unfold bitAt; rw [List.getD_eq_getElem?_getD, List.getElem?_eq_none h]; rfl
theorem cntS_out (l : List Bool) (d : Nat) : cntS l (l.length + d) = cntS l l.length := by
  induction d with
  | zero => rfl
  | succ d ih => rw [Nat.add_succ, cntS, ih, bitAt_out l _ (by omega)]; rfl
theorem ones_by8' : ∀ (a b c d e f g h : Bool), Lib.onesCount (Rowl.by8' a b c d e f g h) = a.toNat + b.toNat + c.toNat + d.toNat + e.toNat + f.toNat + g.toNat + h.toNat := by decide +kernel
theorem cntS_byte (l : List Bool) (q : Nat) : cntS l (8 * (q + 1)) = cntS l (8 * q) + Lib.onesCount (Rowl.by8 (fun t => l.getD (8 * q + t) false)) := by
  show _ = _ + Lib.onesCount (Rowl.by8' (l.getD (8 * q + 0) false) (l.getD (8 * q + 1) false) (l.getD (8 * q + 2) false) (l.getD (8 * q + 3) false) (l.getD (8 * q + 4) false) (l.getD (8 * q + 5) false) (l.getD (8 * q + 6) false) (l.getD (8 * q + 7) false))
  rw [ones_by8', show 8 * (q + 1) = 8 * q + 7 + 1 by omega]
  simp only [cntS, Nat.add_zero]
  unfold bitAt
  omega
theorem cntS_le (l : List Bool) (k : Nat) : cntS l k ≤ k := by
  induction k with
  | zero => exact Nat.le_refl _
  | succ k ih => rw [cntS]; have := Bool.toNat_le (bitAt l k); omega
set_option maxRecDepth 100000 in
theorem ones_calls (x : Int) (w : World) (h0 : 0 ≤ x) (h1 : x ≤ 255) :
    Calls Try.prog 112 #[.int .u8 x] w fun e w' => e = .returned (.int .i64 (Lib.onesCount x.toNat)) ∧ w = w' := by
  have HE : Aside0 (wrap64 (Lib.pop8 x) = (Lib.onesCount x.toNat : Int)) := ⟨by rw [← Lib.pop8_int x h0 h1]; unfold wrap64; rfl⟩
  go_enter Try.func112, Try.ntmps112
  go_wp2
  go_ret
  exact ⟨show Ending.returned (.int .i64 (wrap64 (Lib.pop8 x))) = _ by rw [HE.out], rfl⟩
set_option maxHeartbeats 1600000 in
set_option maxRecDepth 100000 in
theorem bits_Count_calls (gp : Nat) (l : List Bool) (base : Nat) (w : World) (hI : BRow w base gp l) (hl : l.length ≤ 4096) :
    Calls Try.prog 89 #[.pointer (some ⟨gp, 0, none⟩)] w fun e w' => e = .returned (.int .i64 (cntTo l l.length)) ∧ Below w.heap.size w w' := by
  have HI := Aside0.mk hI
  have HPL := Aside0.mk (Rowl.pack_length l)
  clear hI
  obtain ⟨j, hj⟩ : ∃ j, (Rowl.pack l).length = j := ⟨_, rfl⟩
  have hj1 : j ≤ 512 := by have := HPL.out; omega
  have HJ := Aside0.mk hj
  clear hj
  go_enter Try.func89, Try.ntmps89
  go_wp2_with (go_at_call 90; go_must (refine (bits_Bytes_calls gp l base _ HI.out hl).mono ?_); rintro e w1 ⟨v, rfl, ho, hb⟩; obtain ⟨A, c, rfl⟩ := Kd.R_slice ho; rw [HJ.out] at ho ⊢; have HR := Aside0.mk (Kd.R_reads' ho).2.2; have HB := Aside0.mk hb; clear ho hb)
  go_loop [3, 9] (fun t i => ∃ k : Nat, k ≤ j ∧ i = .int .i64 k ∧ t = .int .i64 (cntS l (8 * k) : Int)) (fun _ i => j - (intOf i).toNat)
  case atStart => exact ⟨0, Nat.zero_le _, rfl, rfl⟩
  case round =>
    obtain ⟨k, hk, rfl, rfl⟩ := hrel
    by_cases hlt : k < j
    · have hle := cntS_le l (8 * k)
      have HS := Aside0.mk (cntS_byte l k)
      have hq : k < (l.length + 7) / 8 := by have := HJ.out; have := HPL.out; omega
      obtain ⟨ad, hA, hx⟩ := Kd.at_int HR.out (k : Int) (by omega) (by rw [HJ.out]; omega)
      rw [Rowl.rd_pack l k hq, Int.toNat_natCast] at hx
      have hlt8 := Rowl.by8_lt (fun t => l.getD (8 * k + t) false)
      obtain ⟨y, hy⟩ : ∃ y, Rowl.by8 (fun t => l.getD (8 * k + t) false) = y := ⟨_, rfl⟩
      rw [hy] at hx HS hlt8
      subst hA
      have ho8 := Lib.onesCount_le8 ⟨y, hlt8⟩
      simp only at ho8
      clear hy hq
      go_wp2_with (go_at_call 112; go_must (refine (ones_calls (y : Int) _ (by omega) (by omega)).mono ?_); rw [Int.toNat_natCast]; rintro e w' ⟨rfl, rfl⟩)
      go_round
      case rel => exact ⟨k + 1, by omega, by go_num, by rw [HS.out]; go_num⟩
      case measure => simp [intOf]; omega
    · obtain rfl : k = j := by omega
      have HE : Aside0 (cntTo l l.length = (cntS l (8 * k) : Int)) := ⟨by
        rw [cntTo_S l _ (Nat.le_refl _)]
        have := HJ.out; have h2 := HPL.out
        obtain ⟨d, hd⟩ : ∃ d, 8 * k = l.length + d := ⟨8 * k - l.length, by omega⟩
        rw [hd, cntS_out]⟩
      go_wp2
      go_ret
      exact ⟨show Ending.returned (.int .i64 (cntS l (8 * k) : Int)) = _ by rw [HE.out], HB.out⟩
/-- From here on more is held. -/
theorem up_ {P : Program} {md : Region.Mode} {ops : Array Oper} {Q : Exit → Act → World → Prop} {S S' : World → Prop} (hup : ∀ w, S' w → S w) : ∀ (fuel : Nat) (listed : Array Bool) (a : Act) (w : World), S' w → wpAnyLast P md ops Q S' [] fuel listed a w → wpAnyLast P md ops Q S [] fuel listed a w
  | 0, _, _, _, _, h => h
  | fuel + 1, _, _, _, hS, h => ⟨h.1, fun i hi => wpOp_mono (fun a' w' h' => ⟨fun _ _ => hup _ (h'.1 (by simp) hS), up_ hup fuel _ a' w' (h'.1 (by simp) hS) h'.2⟩) (h.2 i hi)⟩
theorem up_to {P : Program} {md : Region.Mode} {ops : Array Oper} {Q : Exit → Act → World → Prop} {S : World → Prop} {fuel : Nat} {listed : Array Bool} {a : Act} {w : World} (T : World → Prop) (hS : S w) (hT : T w) (h : (S w ∧ T w) → wpAnyLast P md ops Q (fun w' => S w' ∧ T w') [] fuel listed a w) : wpAnyLast P md ops Q S [] fuel listed a w :=
  up_ (S' := fun w' => S w' ∧ T w') (fun _ h => h.1) fuel listed a w ⟨hS, hT⟩ (h ⟨hS, hT⟩)
/-- Two orders joined, more being held behind. -/
theorem join2_ {P : Program} {md : Region.Mode} {ops : Array Oper} {Q : Exit → Act → World → Prop} {S : World → Prop} {ds : List Nat} {σ : Type} {S' : σ → World → Prop} {fuel : Nat} {l : Array Bool} {a : Act} {w : World} (fuel' : Nat) (l' : Array Bool) (ns : σ → List (Tmp × Value)) (F : σ → World → Prop)
    (hcont : ∀ s w', F s w' → wpAnyLast P md ops Q (S' s) ds fuel' l' (putAll a (ns s)) w')
    (h : (∀ s w', F s w' → wpAnyLast P md ops Q (S' s) ds fuel' l' (putAll a (ns s)) w') → wpAnyLast P md ops Q S ds fuel l a w) : wpAnyLast P md ops Q S ds fuel l a w := h hcont
theorem pack_zero (n : Nat) : Rowl.pack (List.replicate n false) = List.replicate ((n + 7) / 8) 0 := by
  have h := packTo_zero (List.replicate n false)
  rw [List.length_replicate] at h
  rw [← h]
  unfold packTo
  rw [List.take_zero, List.nil_append, List.length_replicate, Nat.sub_zero]
theorem bits_New_row (n : Int) (w : World) : Calls Try.prog 91 #[.int .i64 n] w fun e w' => ∃ g, e = .returned (.pointer (some ⟨g, 0, none⟩)) ∧ BRow w' w.heap.size g (List.replicate (clampRow n).toNat false) ∧ Below w.heap.size w w' := by
  refine (bits_New_calls n w).mono ?_
  rintro e w' ⟨g, v, he, hbk, ho, hg, hb⟩
  have h0 := clampRow_0 n
  have h1 := clampRow_1 n
  obtain ⟨A, c, rfl⟩ := Kd.R_slice ho
  have e2 : (rowBytes (clampRow n)).toNat = ((clampRow n).toNat + 7) / 8 := by unfold rowBytes; rw [Int.tdiv_eq_ediv_of_nonneg (by omega)]; omega
  rw [e2] at ho hbk
  refine ⟨g, he, ?_, hb⟩
  unfold BRow
  rw [pack_zero, List.length_replicate, Int.toNat_of_nonneg h0]
  exact ⟨A, c, hbk, ho, hg⟩
theorem bits_Of_row (n : Nat) (A0 : Option Addr) (c0 : Nat) (b : List Int) (w : World) (hr0 : Kd.C (Kd.int .u8) w A0 b.length b) (hc0 : b.length ≤ c0) (hby : Num.Bytes b) (h : OfOk (n : Int) b) :
    Calls Try.prog 98 #[.int .i64 n, .slice A0 b.length c0] w fun e w' => ∃ g, e = .returned (.tuple #[.pointer (some ⟨g, 0, none⟩), .int .i64 0]) ∧ BRow w' w.heap.size g (Rowl.unpack n b) ∧ Below w.heap.size w w' := by
  refine (bits_Of_ok (n : Int) A0 c0 b w hr0 hc0 h).mono ?_
  rintro e w' ⟨g, he, ho, hb⟩
  refine ⟨g, he, ?_, hb⟩
  unfold BRow
  rw [pack_of hby h, Rowl.unpack_length]
  exact ho
theorem setBit_pack (l : List Bool) (i : Nat) (on : Bool) (h : i < l.length) : setBit (Rowl.pack l) (i : Int) on = Rowl.pack (l.set i on) := by
  unfold setBit
  rw [show ((i : Int)).tdiv 8 = ((i / 8 : Nat) : Int) by rw [Int.tdiv_eq_ediv_of_nonneg (by omega)]; omega, show ((i : Int)).tmod 8 = ((i % 8 : Nat) : Int) from tmod_nat i 8, Int.toNat_natCast]
  cases on
  · exact Rowl.pack_not l i h
  · exact Rowl.pack_or l i h
set_option maxHeartbeats 800000 in
set_option maxRecDepth 100000 in
theorem bits_Set_on (g : Nat) (i n : Int) (b : List Int) (w0 w : World) (base : Nat) (hI : OwnRow_ w base g n b) (hB : Below base w0 w) (h0 : 0 ≤ i) (h1 : i < n) (h2 : i.tdiv 8 < (b.length : Int)) (hbl : b.length ≤ 512) :
    Calls Try.prog 92 #[.pointer (some ⟨g, 0, none⟩), .int .i64 i, .bool true] w fun e w' => e = .returned (.int .i64 0) ∧ OwnRow_ w' base g n (setBit b i true) ∧ Below base w0 w' ∧ TyKeep 5 w w' := by
  obtain ⟨A, c, hbk, ho, hg⟩ := hI
  have BK := Aside0.mk hbk
  have HG := Aside0.mk hg
  have HB := Aside0.mk hB
  have hc0 : w.cell? ⟨g, 0, none⟩ = some (.int .i64 n) := (blk_cell BK.out 0).trans rfl
  have hc1 : w.cell? ⟨g, 1, none⟩ = some (.slice A b.length c) := (blk_cell BK.out 1).trans rfl
  have hf0 := blk_frozen BK.out 0
  have hf1 := blk_frozen BK.out 1
  have d1 : decide (i < 0) = false := decide_eq_false (by omega)
  have d2 : decide (n ≤ i) = false := decide_eq_false (by omega)
  obtain ⟨q, hq⟩ : ∃ q, i.tdiv 8 = q := ⟨_, rfl⟩
  obtain ⟨tm, htm⟩ : ∃ tm, i.tmod 8 = tm := ⟨_, rfl⟩
  have hq0 : 0 ≤ q := by rw [← hq, Int.tdiv_eq_ediv_of_nonneg h0]; omega
  have t0 : 0 ≤ tm ∧ tm < 8 := by rw [← htm, Int.tmod_eq_emod_of_nonneg h0]; omega
  rw [hq] at h2
  have hpos : 0 < b.length := by omega
  obtain ⟨ga, ca, hform, gb, _⟩ := Kd.R_form ho hpos
  injection hform with hA hln hcc
  subst hA
  clear hln hcc
  have HNE := Aside0.mk (show g ≠ ga from fun e => absurd (ho.1 ga rfl) (by rw [e]; exact Nat.lt_irrefl _))
  have GB := Aside0.mk gb
  obtain ⟨hx0, hfx⟩ := Kd.R_cell 0 ho q hq0 h2
  have hx : w.cell? ⟨ga, q.toNat, none⟩ = some (.int .u8 (rd b q)) := hx0
  clear hx0
  obtain ⟨sv, hsv⟩ : ∃ sv, shl .u8 1 tm = sv := ⟨_, rfl⟩
  have e6 : (2 : Int) ^ min tm.toNat 8 % 256 = sv := by rw [← hsv]; unfold shl; rw [IntKind.wrap_u8, Int.one_mul]; rfl
  have e2 : IntKind.u64.wrap tm = tm := by rw [IntKind.wrap_u64]; omega
  have e5 : IntKind.i64.wrap q = q := by rw [i64_w]; unfold wrap64; omega
  have p1 : (0 ≤ q) = True := eq_true hq0
  have p2 : (q < (b.length : Int)) = True := eq_true h2
  have p3 : (0 ≤ tm) = True := eq_true (by omega)
  have p4 : decide (0 ≤ tm) = true := decide_eq_true (by omega)
  have HP := Aside0.mk (Kd.R_putg ho q (Go.bits .or .u8 (rd b q) sv))
  have HO := Aside0.mk ho
  have hset : setBit b i true = b.set q.toNat (Go.bits .or .u8 (rd b q) sv) := by unfold setBit; rw [hq, htm, hsv]; rfl
  rw [hset]
  obtain ⟨cells, hty⟩ := Kd.R_typed ho ga rfl
  have TK := Aside0.mk (TyKeep.set_ hty q.toNat (.int .u8 (Go.bits .or .u8 (rd b q) sv)))
  clear hty
  clear hbk ho hg hB gb hset h0 h1 h2 hq0 t0 hpos hbl hsv
  go_enter Try.func92, Try.ntmps92
  go_wp2
  go_ret
  refine ⟨rfl, ⟨some ⟨ga, 0, none⟩, c, ?_, ?_, HG.out⟩, HB.out.setCell GB.out _, TK.out⟩
  · rw [List.length_set]; exact blk_far BK.out HNE.out _
  · rw [List.length_set]; exact HP.out.1
set_option maxHeartbeats 800000 in
set_option maxRecDepth 100000 in
theorem bits_Set_off (g : Nat) (i n : Int) (b : List Int) (w0 w : World) (base : Nat) (hI : OwnRow_ w base g n b) (hB : Below base w0 w) (h0 : 0 ≤ i) (h1 : i < n) (h2 : i.tdiv 8 < (b.length : Int)) (hbl : b.length ≤ 512) :
    Calls Try.prog 92 #[.pointer (some ⟨g, 0, none⟩), .int .i64 i, .bool false] w fun e w' => e = .returned (.int .i64 0) ∧ OwnRow_ w' base g n (setBit b i false) ∧ Below base w0 w' ∧ TyKeep 5 w w' := by
  obtain ⟨A, c, hbk, ho, hg⟩ := hI
  have BK := Aside0.mk hbk
  have HG := Aside0.mk hg
  have HB := Aside0.mk hB
  have hc0 : w.cell? ⟨g, 0, none⟩ = some (.int .i64 n) := (blk_cell BK.out 0).trans rfl
  have hc1 : w.cell? ⟨g, 1, none⟩ = some (.slice A b.length c) := (blk_cell BK.out 1).trans rfl
  have hf0 := blk_frozen BK.out 0
  have hf1 := blk_frozen BK.out 1
  have d1 : decide (i < 0) = false := decide_eq_false (by omega)
  have d2 : decide (n ≤ i) = false := decide_eq_false (by omega)
  obtain ⟨q, hq⟩ : ∃ q, i.tdiv 8 = q := ⟨_, rfl⟩
  obtain ⟨tm, htm⟩ : ∃ tm, i.tmod 8 = tm := ⟨_, rfl⟩
  have hq0 : 0 ≤ q := by rw [← hq, Int.tdiv_eq_ediv_of_nonneg h0]; omega
  have t0 : 0 ≤ tm ∧ tm < 8 := by rw [← htm, Int.tmod_eq_emod_of_nonneg h0]; omega
  rw [hq] at h2
  have hpos : 0 < b.length := by omega
  obtain ⟨ga, ca, hform, gb, _⟩ := Kd.R_form ho hpos
  injection hform with hA hln hcc
  subst hA
  clear hln hcc
  have HNE := Aside0.mk (show g ≠ ga from fun e => absurd (ho.1 ga rfl) (by rw [e]; exact Nat.lt_irrefl _))
  have GB := Aside0.mk gb
  obtain ⟨hx0, hfx⟩ := Kd.R_cell 0 ho q hq0 h2
  have hx : w.cell? ⟨ga, q.toNat, none⟩ = some (.int .u8 (rd b q)) := hx0
  clear hx0
  obtain ⟨sv, hsv⟩ : ∃ sv, shl .u8 1 tm = sv := ⟨_, rfl⟩
  have e6 : (2 : Int) ^ min tm.toNat 8 % 256 = sv := by rw [← hsv]; unfold shl; rw [IntKind.wrap_u8, Int.one_mul]; rfl
  have e2 : IntKind.u64.wrap tm = tm := by rw [IntKind.wrap_u64]; omega
  have e5 : IntKind.i64.wrap q = q := by rw [i64_w]; unfold wrap64; omega
  have p1 : (0 ≤ q) = True := eq_true hq0
  have p2 : (q < (b.length : Int)) = True := eq_true h2
  have p3 : (0 ≤ tm) = True := eq_true (by omega)
  have p4 : decide (0 ≤ tm) = true := decide_eq_true (by omega)
  have HP := Aside0.mk (Kd.R_putg ho q (Go.bits .andNot .u8 (rd b q) sv))
  have HO := Aside0.mk ho
  have hset : setBit b i false = b.set q.toNat (Go.bits .andNot .u8 (rd b q) sv) := by unfold setBit; rw [hq, htm, hsv]; rfl
  rw [hset]
  obtain ⟨cells, hty⟩ := Kd.R_typed ho ga rfl
  have TK := Aside0.mk (TyKeep.set_ hty q.toNat (.int .u8 (Go.bits .andNot .u8 (rd b q) sv)))
  clear hty
  clear hbk ho hg hB gb hset h0 h1 h2 hq0 t0 hpos hbl hsv
  go_enter Try.func92, Try.ntmps92
  go_wp2
  go_ret
  refine ⟨rfl, ⟨some ⟨ga, 0, none⟩, c, ?_, ?_, HG.out⟩, HB.out.setCell GB.out _, TK.out⟩
  · rw [List.length_set]; exact blk_far BK.out HNE.out _
  · rw [List.length_set]; exact HP.out.1
set_option maxRecDepth 100000 in
theorem bits_Set_in (g : Nat) (l : List Bool) (i : Nat) (on : Bool) (base : Nat) (w0 w : World) (hI : BRow w base g l) (hB : Below base w0 w) (h : i < l.length) (hl : l.length ≤ 4096) :
    Calls Try.prog 92 #[.pointer (some ⟨g, 0, none⟩), .int .i64 i, .bool on] w fun e w' => e = .returned (.int .i64 0) ∧ BRow w' base g (l.set i on) ∧ Below base w0 w' ∧ TyKeep 5 w w' := by
  have hp := Rowl.pack_length l
  have hq : ((i : Int)).tdiv 8 = ((i / 8 : Nat) : Int) := by rw [Int.tdiv_eq_ediv_of_nonneg (by omega)]; omega
  unfold BRow
  rw [← setBit_pack l i on h, List.length_set]
  cases on
  · exact bits_Set_off g i (l.length : Int) (Rowl.pack l) w0 w base hI hB (by omega) (by omega) (by rw [hq, hp]; omega) (by omega)
  · exact bits_Set_on g i (l.length : Int) (Rowl.pack l) w0 w base hI hB (by omega) (by omega) (by rw [hq, hp]; omega) (by omega)
set_option maxRecDepth 100000 in
theorem bits_Set_out (g : Nat) (l : List Bool) (i : Int) (on : Bool) (base : Nat) (w : World) (hI : BRow w base g l) (h : i < 0 ∨ (l.length : Int) ≤ i) :
    Calls Try.prog 92 #[.pointer (some ⟨g, 0, none⟩), .int .i64 i, .bool on] w fun e w' => e = .returned (.int .i64 1) ∧ w = w' := by
  obtain ⟨A, c, hc0, hc1, hf0, hf1, hin⟩ := hI.open_
  clear hI hin
  by_cases h0 : i < 0
  · have d1 : decide (i < 0) = true := decide_eq_true h0
    go_enter Try.func92, Try.ntmps92
    go_wp2
    go_ret
    exact ⟨rfl, rfl⟩
  · have d1 : decide (i < 0) = false := decide_eq_false h0
    have d2 : decide ((l.length : Int) ≤ i) = true := decide_eq_true (by omega)
    go_enter Try.func92, Try.ntmps92
    go_wp2
    go_ret
    exact ⟨rfl, rfl⟩
/-- The document's row over any list of bits, wherever it lies. -/
def RefRowC (W : World) (g : Nat) (l : List Bool) : Prop := ∃ A c, W.heap[g]? = some (.cells #[.slice A l.length c] 145 (0, 0)) ∧ l.length ≤ c ∧ Kd.bool.C W A l.length l
theorem RefRowC.below {W W1 : World} {g : Nat} {l : List Bool} (h : RefRowC W g l) (hb : Below W.heap.size W W1) : RefRowC W1 g l := by
  obtain ⟨A, c, hbk, hc, ho⟩ := h
  exact ⟨A, c, blk_below hbk hb, hc, Kd.C_below ho hb⟩
theorem RefRowC.open_ {W : World} {g : Nat} {l : List Bool} (h : RefRowC W g l) : ∃ A c, W.cell? ⟨g, 0, none⟩ = some (.slice A l.length c) ∧ W.frozen? ⟨g, 0, none⟩ = false ∧ l.length ≤ c ∧ (∀ k : Nat, k < l.length → ∃ ad, A = some ad ∧ W.cell? (ad.add k) = some (.bool (bitAt l k))) := by
  obtain ⟨A, c, hbk, hc, ho⟩ := h
  refine ⟨A, c, (blk_cell hbk 0).trans rfl, blk_frozen hbk 0, hc, fun k hk => ?_⟩
  obtain ⟨ad, rfl, hcell⟩ := Kd.at_bool ho (k : Int) (by omega) (by omega)
  rw [Int.toNat_natCast] at hcell
  refine ⟨ad, rfl, hcell.trans ?_⟩
  unfold rdOf bitAt
  rw [Int.toNat_natCast]
theorem RefRow.toC {W : World} {base g : Nat} {l : List Bool} (h : RefRow W base g l) : RefRowC W g l := by
  obtain ⟨A, c, hbk, ho⟩ := h
  have := Kd.R_reads' ho
  exact ⟨A, c, hbk, this.2.1, this.2.2⟩
set_option maxHeartbeats 800000 in
set_option maxRecDepth 100000 in
theorem ref_Count_C (g : Nat) (l : List Bool) (w : World) (hI : RefRowC w g l) (hl : l.length ≤ 4096) :
    Calls Try.prog 96 #[.pointer (some ⟨g, 0, none⟩)] w fun e w' => e = .returned (.int .i64 (cntTo l l.length)) ∧ w = w' := by
  obtain ⟨A, c, hc0, hf0, hlc, hin⟩ := hI.open_
  have HIN := Aside0.mk hin
  clear hI hin
  go_enter Try.func96, Try.ntmps96
  go_wp2
  go_loop [3, 10] (fun t i => ∃ k : Nat, k ≤ l.length ∧ i = .int .i64 k ∧ t = .int .i64 (cntTo l k)) (fun _ i => l.length - (intOf i).toNat)
  case atStart => exact ⟨0, Nat.zero_le _, rfl, rfl⟩
  case round =>
    obtain ⟨k, hk, rfl, rfl⟩ := hrel
    have hb := cntTo_le l k
    by_cases hlt : k < l.length
    · obtain ⟨ad, rfl, hx⟩ := HIN.out k hlt
      have HS := Aside0.mk (cntTo_succ l k hlt)
      by_cases hv : bitAt l k = true
      all_goals
        go_wp2
        go_round
        case rel => exact ⟨k + 1, by omega, by go_num, by first | (rw [HS.out, if_pos ‹_›]; done) | (rw [HS.out, if_neg ‹_›, Int.add_zero]; done)⟩
        case measure => simp [intOf]; omega
    · obtain rfl : k = l.length := by omega
      go_wp2
      go_ret
      exact ⟨rfl, rfl⟩
set_option maxHeartbeats 1600000 in
set_option maxRecDepth 100000 in
theorem ref_Bytes_C (gp : Nat) (l : List Bool) (w : World) (hI : RefRowC w gp l) (hl : l.length ≤ 4096) :
    Calls Try.prog 93 #[.pointer (some ⟨gp, 0, none⟩)] w fun e w' => ∃ v, e = .returned v ∧ Kd.R (Kd.int .u8) 5 w' w.heap.size (fun _ => True) v (Rowl.pack l) ∧ Below w.heap.size w w' := by
  have HI := Aside0.mk hI
  obtain ⟨A, c, hc0, hf0, hlc, hin⟩ := hI.open_
  have HIN := Aside0.mk hin
  have info5 : (Try.prog.info? 5).map (fun i => (i.zero, i.size, i.bytes)) = some (some (.int .u8 0), 1, 1) := by kernel_rfl
  clear hI hin
  obtain ⟨j, hj⟩ : ∃ j : Nat, j = (l.length + 7) / 8 := ⟨_, rfl⟩
  have hj1 : j ≤ 512 := by omega
  have e3 : ((l.length : Int) + 7).tdiv 8 = (j : Int) := by rw [Int.tdiv_eq_ediv_of_nonneg (by omega)]; omega
  have HZ := Aside0.mk (packTo_zero l)
  rw [← hj] at HZ
  have HJ := Aside0.mk hj
  clear hj
  go_enter Try.func93, Try.ntmps93
  go_wp2_with (first
    | ((with_reducible refine gate_dst (N := 12) rfl ?_); go_must (refine Kd.R_make (Kd.int .u8) _ 5 rfl (N := 12) rfl 23 _ _ rfl (j : Int) rfl rfl Try.underlying23 (.int .u8 0) 1 info5 rfl (by decide) (by omega) 0 (ok := fun _ => True) (okp := fun _ => True) rfl (fun _ hk => hk) trivial (by omega) (by omega) (Below.refl _ _) (Nat.le_refl _) ?_); intro v w1 ho hb hg_ hnew_; clear hg_ hnew_; obtain ⟨A2, c2, rfl⟩ := Kd.R_slice ho; rw [List.length_replicate, Int.toNat_natCast] at ho; have HO1 := Aside0.mk ho; have HB1 := Aside0.mk hb; replace hc0 := pw_cell_below hb hc0; clear ho hb HIN))
  go_loopw [18] (fun i wr => ∃ k : Nat, k ≤ l.length ∧ i = .int .i64 k ∧ Aside0 (Kd.R (Kd.int .u8) 5 wr w.heap.size (fun _ => True) (.slice A2 j c2) (packTo l k)) ∧ Aside0 (Below w.heap.size w wr) ) (fun i _ => l.length - (intOf i).toNat)
  case atStart => exact ⟨0, Nat.zero_le _, rfl, by rw [HZ.out]; exact HO1, HB1⟩
  case round =>
    obtain ⟨k, hk, rfl, HO, HB⟩ := hrel
    obtain ⟨A, c, hc0, hf0, hlc, hin⟩ := (HI.out.below HB.out).open_
    have HIN := Aside0.mk hin
    clear hin
    by_cases hlt : k < l.length
    · obtain ⟨ad, rfl, hx⟩ := HIN.out k hlt
      clear HIN
      by_cases hv : bitAt l k = true
      · have HS := Aside0.mk (packTo_on l k hlt hv)
        obtain ⟨q, hq⟩ : ∃ q, k / 8 = q := ⟨_, rfl⟩
        obtain ⟨tm, htm⟩ : ∃ tm, k % 8 = tm := ⟨_, rfl⟩
        have hqj : q < j := by have := HJ.out; omega
        have hpl : (packTo l k).length = j := by rw [packTo_len l k hk, HJ.out]
        have ht8 : tm < 8 := by omega
        rw [hq, htm] at HS
        obtain ⟨ga2, ca2, hform, gb2, _⟩ := Kd.R_form HO.out (by omega)
        injection hform with hA hln hcc
        subst hA
        clear hln hcc
        have hy := Kd.R_celln 0 HO.out (q : Int) (by omega) (by omega)
        have hy1 : wr.cell? ⟨ga2, q, none⟩ = some (.int .u8 (rd (packTo l k) (q : Int))) := hy.1
        have hy2 : wr.frozen? ⟨ga2, q, none⟩ = false := hy.2
        obtain ⟨sv, hsv⟩ : ∃ sv, shl .u8 1 (tm : Int) = sv := ⟨_, rfl⟩
        have e6 : (2 : Int) ^ min ((tm : Int)).toNat 8 % 256 = sv := by rw [← hsv]; unfold shl; rw [IntKind.wrap_u8, Int.one_mul]; rfl
        have e61 : IntKind.u8.wrap ((2 : Int) ^ min tm 8) = sv := by rw [← hsv]; unfold shl; rw [Int.one_mul]; rfl
        rw [hsv] at HS
        have q1 : ((k : Int)).tdiv 8 = (q : Int) := by rw [Int.tdiv_eq_ediv_of_nonneg (by omega)]; omega
        have q2 : ((k : Int)).tmod 8 = (tm : Int) := by rw [Int.tmod_eq_emod_of_nonneg (by omega)]; omega
        have p4 : decide (0 ≤ (tm : Int)) = true := decide_eq_true (by omega)
        have q5 : IntKind.i64.wrap (q : Int) = (q : Int) := by rw [i64_w]; unfold wrap64; omega
        obtain ⟨y, hy0⟩ : ∃ y, rd (packTo l k) (q : Int) = y := ⟨_, rfl⟩
        rw [hy0] at hy1 HS
        have HP := Aside0.mk (Kd.R_putg HO.out (q : Int) (Go.bits .or .u8 y sv)).1
        have GB := Aside0.mk gb2
        have hqll : (q : Int) < (j : Int) := by omega
        have HQ := Aside0.mk hq
        have HT := Aside0.mk htm
        have HSV := Aside0.mk hsv
        clear hy hq htm hsv hy0 gb2 hpl
        go_upto_region 6 with (fail)
        go_region
        go_wp2
        have esv : (2 : Int) ^ tm % 256 = sv := by rw [← HSV.out]; unfold shl; rw [Int.toNat_natCast, Nat.min_eq_left (by simp [IntKind.bits]; omega), IntKind.wrap_u8, Int.one_mul]
        rw [esv]
        go_roundw
        case rel => exact ⟨k + 1, by omega, by go_num, ⟨by rw [HS.out]; exact Kd.R_drew HP.out⟩, ⟨(HB.out.setCell GB.out _).drew⟩⟩
        case measure => simp [intOf]; omega
      · have HS := Aside0.mk (packTo_off l k hlt (Bool.eq_false_iff.2 hv))
        go_wp2
        go_roundw
        case rel => exact ⟨k + 1, by omega, by go_num, by rw [HS.out]; exact HO, HB⟩
        case measure => simp [intOf]; omega
    · obtain rfl : k = l.length := by omega
      have HF := Aside0.mk (packTo_full l)
      go_wp2
      go_ret
      exact ⟨_, rfl, by have h := HO.out; rw [HF.out] at h; exact h, HB.out⟩
theorem BRow.lower {W : World} {base base' g : Nat} {l : List Bool} (h : BRow W base g l) (hb : base' ≤ base) : BRow W base' g l := by
  obtain ⟨A, c, hbk, ho, hg⟩ := h
  exact ⟨A, c, hbk, Kd.R_lower ho hb, by omega⟩
theorem BRow.drewN {W : World} {base g : Nat} {l : List Bool} (h : BRow W base g l) (n : Nat) : BRow (W.drewN n) base g l := by
  obtain ⟨A, c, hbk, ho, hg⟩ := h
  exact ⟨A, c, hbk, Kd.R_drewN ho _, hg⟩
theorem BRow.drew {W : World} {base g : Nat} {l : List Bool} (h : BRow W base g l) : BRow W.drew base g l := by
  obtain ⟨A, c, hbk, ho, hg⟩ := h
  exact ⟨A, c, hbk, Kd.R_drew ho, hg⟩
/-- A row stays over a write into a block of another type. -/
theorem BRow.set_ {W : World} {base g : Nat} {l : List Bool} (h : BRow W base g l) {gb : Nat} {cs : Array Value} {t : TypeId} (hb : W.heap[gb]? = some (.cells cs t (0, 0))) (h1 : 5 ≠ t) (h2 : 158 ≠ t) (j : Nat) (u : Value) : BRow (W.setCell ⟨gb, j, none⟩ u) base g l := by
  obtain ⟨A, c, hbk, ho, hg⟩ := h
  have hk := TyKeep.set_ hb j u
  refine ⟨A, c, (hk.2 g _ _ hbk h2).trans hbk, R_tykeep ho hk ?_, hg⟩
  intro q hq
  rcases List.mem_cons.1 hq with rfl | hq
  · exact h1
  · exact absurd (show q ∈ ([] : List TypeId) from hq) (by simp)
theorem blk_tykeep {t0 : TypeId} {W W1 : World} {g : Nat} {cs : Array Value} {t : TypeId} (hk : TyKeep t0 W W1) (h : W.heap[g]? = some (.cells cs t (0, 0))) (ht : t ≠ t0) : W1.heap[g]? = some (.cells cs t (0, 0)) := (hk.2 g _ _ h ht).trans h
theorem wrap_succ {k n : Nat} (h : k < n) (hn : n ≤ 1000000) : wrap64 ((k : Int) + 1) = ((k + 1 : Nat) : Int) := by unfold wrap64; omega
def usedT (o : S100) : Bool := o.f0 != 0
/-- The descriptor's bits when k owners were looked at. -/
def ownTo (l : List S100) (k : Nat) : List Bool := (l.take k).map usedT ++ List.replicate (l.length - k) false
theorem ownTo_len (l : List S100) (k : Nat) (h : k ≤ l.length) : (ownTo l k).length = l.length := by simp [ownTo]; omega
theorem ownTo_zero (l : List S100) : ownTo l 0 = List.replicate l.length false := by simp [ownTo]
theorem ownTo_full (l : List S100) : ownTo l l.length = l.map usedT := by simp [ownTo]
theorem ownTo_step (l : List S100) (k : Nat) (h : k < l.length) : (ownTo l k).set k (usedT (rd_T100 l k)) = ownTo l (k + 1) := by
  unfold ownTo
  have hs : l.length - k = (l.length - (k + 1)) + 1 := by omega
  have hlen : ((l.take k).map usedT).length = k := by simp; omega
  rw [hs, List.replicate_succ, List.take_succ_eq_append_getElem h, List.map_append, List.set_append_right _ _ (by omega), hlen, Nat.sub_self, List.set_cons_zero, List.append_assoc]
  congr 1
  unfold rd_T100
  rw [Int.toNat_natCast, List.getD_eq_getElem?_getD, List.getElem?_eq_getElem h]
  rfl
set_option maxHeartbeats 2000000 in
set_option maxRecDepth 100000 in
theorem group_Of_ok (k : Nat) (A0 : Option Addr) (c0 : Nat) (l0 : List S100) (g : Int) (x : List Int) (w : World) (hr0 : Kd.C k100 w A0 l0.length l0) (hc0 : l0.length ≤ c0) (h : group_Page.f k l0 = some (x, 0)) (hl : l0.length = 64) (hg0 : 0 ≤ g) (hg1 : g < 12) :
    Calls Try.prog 56 #[.int .i64 g, .slice A0 l0.length c0] w fun e w' => ∃ gp, e = .returned (.tuple #[.agg #[.int .i64 g, .pointer (some ⟨gp, 0, none⟩)], .int .i64 0]) ∧ BRow w' w.heap.size gp (l0.map usedT) ∧ Below w.heap.size w w' := by
  have hu1 := Try.underlying90
  have hu2 := Try.underlying100
  have HR := Aside0.mk hr0
  have HC := Aside0.mk hc0
  have HP := Aside0.mk h
  have HL := Aside0.mk hl
  have d1 : decide (g < 0) = false := decide_eq_false (by omega)
  have d2 : decide (12 ≤ g) = false := decide_eq_false (by omega)
  have e64 : Aside0 ((clampRow 64).toNat = 64) := ⟨by decide⟩
  have HB := Aside0.mk (Below.refl w.heap.size w)
  clear hr0 hc0 h hl hg0 hg1
  go_enter Try.func56, Try.ntmps56
  go_wp2_with (first
    | ((with_reducible refine gate_dst (N := 4) rfl ?_); refine box_event ?hg (N := 4) ?hd (cs := #[.int .i64 0, .pointer none]) (t := 90) ?hr ?_; (case hd => rfl); (case hg => rfl); (case hr => first | (go_simp; done) | (go_simp; rfl)); intro gb4 hg w3 hbox hb; have HB3 := Aside0.mk (below_step HB.out hb); have BK3 := Aside0.mk hbox; have GE4 := Aside0.mk (show w.heap.size ≤ gb4 by rw [hg]; exact Nat.le_refl _); clear hb hbox hg)
    | (go_at_call 49; go_must (refine (group_Page.calls k _ _ l0 x 0 _ (Kd.C_below HR.out HB3.out) HC.out HP.out).mono ?_); rintro e w5 ⟨v5, rfl, ho, hb⟩; obtain ⟨A5, c5, rfl⟩ := Kd.R_slice ho; have HB5 := Aside0.mk (below_step HB3.out hb); have BK5 := Aside0.mk (blk_below BK3.out hb); clear ho hb)
    | (go_at_call 91; go_must (refine (bits_New_row 64 _).mono ?_); rw [e64.out]; rintro e w6 ⟨gp, rfl, ho, hb⟩; have HO6 := Aside0.mk (ho.lower (base' := w.heap.size) HB5.out.size); have HB6 := Aside0.mk (below_step HB5.out hb); have BK6 := Aside0.mk (blk_below BK5.out hb); clear ho hb)
    | ((with_reducible refine gate_dst (N := 8) rfl ?_); refine box_event ?hg (N := 8) ?hd (cs := #[.int .i64 0, .pointer none]) (t := 90) ?hr ?_; (case hd => rfl); (case hg => rfl); (case hr => first | (go_simp; done) | (go_simp; rfl)); intro gb8 hg w7 hbox hb; have HB7 := Aside0.mk (below_step HB6.out hb); have BK7 := Aside0.mk (blk_below BK6.out hb); have HO7 := Aside0.mk (HO6.out.below hb); have GE8 := Aside0.mk (show w.heap.size ≤ gb8 by rw [hg]; exact HB6.out.size); have NE := Aside0.mk (show gb4 ≠ gb8 by rw [hg]; exact Nat.ne_of_lt (blk_lt BK6.out)); have DK7 := Aside0.mk hbox; have hcz0 := (blk_cell hbox 0).trans rfl; have hcz1 := (blk_cell hbox 1).trans rfl; have hfz0 := blk_frozen hbox 0; have hfz1 := blk_frozen hbox 1; clear hb hbox hg))
  go_loopw [32] (fun i wr => ∃ kk : Nat, kk ≤ l0.length ∧ i = .int .i64 kk ∧ Aside0 (BRow wr w.heap.size gp (ownTo l0 kk)) ∧ Aside0 (wr.heap[gb4]? = some (.cells #[.int .i64 0, .pointer none] 90 (0, 0))) ∧ Aside0 (wr.heap[gb8]? = some (.cells #[.int .i64 g, .pointer (some ⟨gp, 0, none⟩)] 90 (0, 0))) ∧ Aside0 (Below w.heap.size w wr)) (fun i _ => l0.length - (intOf i).toNat)
  case atStart =>
    refine ⟨0, Nat.zero_le _, rfl, ⟨?_⟩, ⟨?_⟩, ⟨?_⟩, ⟨?_⟩⟩
    · rw [ownTo_zero, HL.out]
      (with_reducible repeat (first | refine BRow.drewN ?_ _ | refine BRow.drew ?_))
      refine BRow.set_ ?_ (blk_put (cs' := #[.int .i64 g, .pointer none]) (by (with_reducible repeat (first | refine blk_drewN ?_ _ | refine blk_drew ?_ | refine blk_alloc ?_ _)); exact DK7.out) 0 _ rfl) (by decide) (by decide) 1 _
      refine BRow.set_ ?_ DK7.out (by decide) (by decide) 0 _
      exact HO7.out
    · (with_reducible repeat (first | refine blk_drewN ?_ _ | refine blk_drew ?_ | refine blk_alloc ?_ _))
      refine blk_far ?_ NE.out _
      (with_reducible repeat (first | refine blk_drewN ?_ _ | refine blk_drew ?_ | refine blk_alloc ?_ _))
      refine blk_far ?_ NE.out _
      (with_reducible repeat (first | refine blk_drewN ?_ _ | refine blk_drew ?_ | refine blk_alloc ?_ _))
      exact BK7.out
    · (with_reducible repeat (first | refine blk_drewN ?_ _ | refine blk_drew ?_ | refine blk_alloc ?_ _))
      refine blk_put (cs := #[.int .i64 g, .pointer none]) ?_ 1 _ rfl
      (with_reducible repeat (first | refine blk_drewN ?_ _ | refine blk_drew ?_ | refine blk_alloc ?_ _))
      refine blk_put (cs := #[.int .i64 0, .pointer none]) ?_ 0 _ rfl
      (with_reducible repeat (first | refine blk_drewN ?_ _ | refine blk_drew ?_ | refine blk_alloc ?_ _))
      exact DK7.out
    · repeat (first | (with_reducible first | exact HB7.out | apply below_alloc | apply pw_below_drewN | apply below_drew1 | refine below_set ?_ GE8.out) | exact HB7.out)
  case round =>
    obtain ⟨kk, hk, rfl, HO, BK4, BK8, HB⟩ := hrel
    clear hcz0 hcz1 hfz0 hfz1
    by_cases hlt : kk < l0.length
    · obtain ⟨ad, rfl, hx0, hx1⟩ := at_T100 HR.out (kk : Int) (by omega) (by omega)
      replace hx0 := (HB.out.cell (World.block_lt_of_cell? w _ hx0)).trans hx0
      replace hx1 := (HB.out.cell (World.block_lt_of_cell? w _ hx1)).trans hx1
      simp only [Int.toNat_natCast] at hx0 hx1
      have HS := Aside0.mk (ownTo_step l0 kk hlt)
      have HLT := Aside0.mk hlt
      have hb64 : l0.length ≤ 64 := by rw [HL.out]; exact Nat.le_refl _
      go_wp2_with (first
        | ((with_reducible refine gate_dst (N := 10) rfl ?_); refine box_event ?hg (N := 10) ?hd (cs := #[.int .u16 0, .int .u16 0]) (t := 100) ?hr ?_; (case hd => rfl); (case hg => rfl); (case hr => first | (go_simp; done) | (go_simp; rfl)); intro gb10 hg w9 hbox hb; have HB9 := Aside0.mk (below_step HB.out hb); have HO9 := Aside0.mk (HO.out.below hb); have BK49 := Aside0.mk (blk_below BK4.out hb); have BK89 := Aside0.mk (blk_below BK8.out hb); have BK10 := Aside0.mk hbox; have GE10 := Aside0.mk (show w.heap.size ≤ gb10 by rw [hg]; exact HB.out.size); have N4 := Aside0.mk (show gb4 ≠ gb10 by rw [hg]; exact Nat.ne_of_lt (blk_lt BK4.out)); have N8 := Aside0.mk (show gb8 ≠ gb10 by rw [hg]; exact Nat.ne_of_lt (blk_lt BK8.out)); have N8' := N8.out; have N8'' := N8.out.symm; have hcz0 := (blk_cell hbox 0).trans rfl; have hcz1 := (blk_cell hbox 1).trans rfl; have hfz0 := blk_frozen hbox 0; have hfz1 := blk_frozen hbox 1; have hb1 := (blk_cell BK89.out 1).trans rfl; have hb1f := blk_frozen BK89.out 1; clear hb hbox hg)
        | (go_at_call 92; go_must (refine (bits_Set_in gp (ownTo l0 kk) kk (usedT (rd_T100 l0 kk)) w.heap.size w _ ?s1 ?s2 ?s3 ?s4).mono ?_)
           (case s1 => (with_reducible repeat (first | refine BRow.drewN ?_ _ | refine BRow.drew ?_))
                       refine BRow.set_ ?_ (blk_put (cs := #[.int .u16 0, .int .u16 0]) (by (with_reducible repeat (first | refine blk_drewN ?_ _ | refine blk_drew ?_ | refine blk_alloc ?_ _)); exact BK10.out) 0 _ rfl) (by decide) (by decide) 1 _
                       (with_reducible repeat (first | refine BRow.drewN ?_ _ | refine BRow.drew ?_))
                       refine BRow.set_ ?_ BK10.out (by decide) (by decide) 0 _
                       exact HO9.out)
           (case s2 => repeat (first | (with_reducible first | exact HB9.out | apply below_alloc | apply pw_below_drewN | apply below_drew1 | refine below_set ?_ GE10.out) | exact HB9.out))
           (case s3 => rw [ownTo_len _ _ (by have := HLT.out; omega)]; exact HLT.out)
           (case s4 => rw [ownTo_len _ _ (by have := HLT.out; omega), HL.out]; decide)
           rintro e w11 ⟨rfl, ho, hb, hk⟩; rw [HS.out] at ho; have HO11 := Aside0.mk ho; have HB11 := Aside0.mk hb; have TK := Aside0.mk hk; clear ho hb hk))
      go_roundw
      case measure => simp [intOf]; omega
      case rel =>
        refine ⟨kk + 1, by omega, by go_num, ⟨?_⟩, ⟨?_⟩, ⟨?_⟩, ⟨?_⟩⟩
        · (with_reducible repeat (first | refine BRow.drewN ?_ _ | refine BRow.drew ?_))
          exact HO11.out
        · (with_reducible repeat (first | refine blk_drewN ?_ _ | refine blk_drew ?_ | refine blk_alloc ?_ _))
          refine blk_tykeep TK.out ?_ (by decide)
          (with_reducible repeat (first | refine blk_drewN ?_ _ | refine blk_drew ?_ | refine blk_alloc ?_ _))
          refine blk_far ?_ N4.out _
          (with_reducible repeat (first | refine blk_drewN ?_ _ | refine blk_drew ?_ | refine blk_alloc ?_ _))
          refine blk_far ?_ N4.out _
          (with_reducible repeat (first | refine blk_drewN ?_ _ | refine blk_drew ?_ | refine blk_alloc ?_ _))
          exact BK49.out
        · (with_reducible repeat (first | refine blk_drewN ?_ _ | refine blk_drew ?_ | refine blk_alloc ?_ _))
          refine blk_tykeep TK.out ?_ (by decide)
          (with_reducible repeat (first | refine blk_drewN ?_ _ | refine blk_drew ?_ | refine blk_alloc ?_ _))
          refine blk_far ?_ N8.out _
          (with_reducible repeat (first | refine blk_drewN ?_ _ | refine blk_drew ?_ | refine blk_alloc ?_ _))
          refine blk_far ?_ N8.out _
          (with_reducible repeat (first | refine blk_drewN ?_ _ | refine blk_drew ?_ | refine blk_alloc ?_ _))
          exact BK89.out
        · repeat (first | (with_reducible first | exact HB11.out | apply below_alloc | apply pw_below_drewN | apply below_drew1) | exact HB11.out)
    · obtain rfl : kk = l0.length := by omega
      have hne := NE.out
      have hne' := NE.out.symm
      have hcz0 : wr.cell? ⟨gb8, 0, none⟩ = some (.int .i64 g) := (blk_cell BK8.out 0).trans rfl
      have hcz1 : wr.cell? ⟨gb8, 1, none⟩ = some (.pointer (some ⟨gp, 0, none⟩)) := (blk_cell BK8.out 1).trans rfl
      have hfz0 := blk_frozen BK8.out 0
      have hfz1 := blk_frozen BK8.out 1
      have hdz0 : wr.cell? ⟨gb4, 0, none⟩ = some (.int .i64 0) := (blk_cell BK4.out 0).trans rfl
      have hdz1 : wr.cell? ⟨gb4, 1, none⟩ = some (.pointer none) := (blk_cell BK4.out 1).trans rfl
      have hgz0 := blk_frozen BK4.out 0
      have hgz1 := blk_frozen BK4.out 1
      go_wp2
      refine bodyPost_ret (results_ct rfl _ _ gb4 90 #[.int .i64 g, .pointer (some ⟨gp, 0, none⟩)] (0, 0) _ rfl (by (with_reducible repeat (first | refine blk_drewN ?_ _ | refine blk_drew ?_ | refine blk_alloc ?_ _)); refine blk_put (cs := #[.int .i64 g, .pointer none]) ?_ 1 _ rfl; (with_reducible repeat (first | refine blk_drewN ?_ _ | refine blk_drew ?_ | refine blk_alloc ?_ _)); refine blk_put (cs := #[.int .i64 0, .pointer none]) ?_ 0 _ rfl; (with_reducible repeat (first | refine blk_drewN ?_ _ | refine blk_drew ?_ | refine blk_alloc ?_ _)); exact BK4.out) Try.underlying90 rfl (by kernel_rfl)) rfl ?_
      refine ⟨gp, rfl, ?_, ?_⟩
      · rw [← ownTo_full]
        (with_reducible repeat (first | refine BRow.drewN ?_ _ | refine BRow.drew ?_))
        refine BRow.set_ ?_ (blk_put (cs' := #[.int .i64 g, .pointer none]) (by (with_reducible repeat (first | refine blk_drewN ?_ _ | refine blk_drew ?_ | refine blk_alloc ?_ _)); exact BK4.out) 0 _ rfl) (by decide) (by decide) 1 _
        (with_reducible repeat (first | refine BRow.drewN ?_ _ | refine BRow.drew ?_))
        refine BRow.set_ ?_ BK4.out (by decide) (by decide) 0 _
        exact HO.out
      · repeat (first | (with_reducible first | exact HB.out | apply below_alloc | apply pw_below_drewN | apply below_drew1 | refine below_set ?_ GE4.out) | exact HB.out)
def sd_rt1.T : Bool × List (List Nat × List Nat) := (true, [([], []), ([0], [0]), ([], []), ([2], [2]), ([1, 3], [1, 3]), ([4], [4]), ([5], [5]), ([6, 5], [5, 6]), ([7, 5, 5], [5, 7]), ([5], [5]), ([9, 5], [5, 9]), ([10, 5], [5, 10]), ([8, 11, 5], [5, 8, 11]), ([5, 12], [5, 12])])
def sd_rt1.B : List Nat := [0, 1, 0, 4, 15, 31, 63, 127, 255, 63, 575, 1599, 4095, 8191]
theorem sd_rt1.tab : rtab .any (opsOf Try.f58 1) = sd_rt1.T := by kernel_rfl
theorem sd_rt1.bits : waitsOk sd_rt1.T.2 sd_rt1.B = true := by kernel_rfl
def sd_rt3.T : Bool × List (List Nat × List Nat) := (true, [([], []), ([0], [0]), ([1], [1]), ([2], [2]), ([], []), ([4], [4]), ([5], [5]), ([6], [6]), ([7, 2], [7]), ([8], [8]), ([3, 9], [3, 9]), ([10, 8, 0, 1, 2, 3, 4, 5, 6, 7, 8, 9, 10], [10])])
def sd_rt3.B : List Nat := [0, 1, 3, 7, 0, 16, 48, 112, 247, 503, 1023, 2047]
theorem sd_rt3.tab : rtab .any (opsOf Try.f58 3) = sd_rt3.T := by kernel_rfl
theorem sd_rt3.bits : waitsOk sd_rt3.T.2 sd_rt3.B = true := by kernel_rfl
set_option maxHeartbeats 2000000 in
set_option maxRecDepth 100000 in
theorem sameDesc_ok (g : Int) (gp : Nat) (l : List Bool) (base : Nat) (A2 : Option Addr) (c2 : Nat) (w : World) (hI : BRow w base gp l) (hJ : Kd.bool.C w A2 l.length l) (hc2 : l.length ≤ c2) (hl : l.length ≤ 4096) :
    Calls Try.prog 58 #[.agg #[.int .i64 g, .pointer (some ⟨gp, 0, none⟩)], .agg #[.int .i64 g, .slice A2 l.length c2]] w fun e w' => e = .returned (.bool true) ∧ Below w.heap.size w w' := by
  have hu1 := Try.underlying90
  have hu2 := Try.underlying105
  have hu3 := Try.underlying145
  have HI := Aside0.mk hI
  have HJ := Aside0.mk hJ
  have HC2 := Aside0.mk hc2
  have HL := Aside0.mk hl
  have HB := Aside0.mk (Below.refl w.heap.size w)
  clear hI hJ hc2
  go_enter Try.func58, Try.ntmps58
  go_upto_region 1 with (first
    | ((with_reducible refine gate_dst (N := 2) rfl ?_); refine box_event ?hg (N := 2) ?hd (cs := #[.int .i64 g, .pointer (some ⟨gp, 0, none⟩)]) (t := 90) ?hr ?_; (case hd => rfl); (case hg => rfl); (case hr => first | (go_simp; done) | (go_simp; rfl)); intro g2 hg w3 hbox hb; have HB3 := Aside0.mk (below_step HB.out hb); have BK2 := Aside0.mk hbox; clear hb hbox hg)
    | ((with_reducible refine gate_dst (N := 3) rfl ?_); refine box_event ?hg (N := 3) ?hd (cs := #[.int .i64 g, .slice A2 l.length c2]) (t := 105) ?hr ?_; (case hd => rfl); (case hg => rfl); (case hr => first | (go_simp; done) | (go_simp; rfl)); intro g3 hg w4 hbox hb; have HB4 := Aside0.mk (below_step HB3.out hb); have BK23 := Aside0.mk (blk_below BK2.out hb); have BK3 := Aside0.mk hbox; clear hb hbox hg))
  have HS0 : Aside0 (BRow w4.drew base gp l ∧ Kd.bool.C w4.drew A2 l.length l ∧ Below w.heap.size w w4.drew ∧ w4.drew.heap[g2]? = some (.cells #[.int .i64 g, .pointer (some ⟨gp, 0, none⟩)] 90 (0, 0)) ∧ w4.drew.heap[g3]? = some (.cells #[.int .i64 g, .slice A2 l.length c2] 105 (0, 0))) := ⟨(HI.out.below HB4.out).drew, Kd.C_below HJ.out (below_drew HB4.out), below_drew HB4.out, BK23.out, BK3.out⟩
  refine start_ (n := 14) (S := fun w' => BRow w' base gp l ∧ Kd.bool.C w' A2 l.length l ∧ Below w.heap.size w w' ∧ w'.heap[g2]? = some (.cells #[.int .i64 g, .pointer (some ⟨gp, 0, none⟩)] 90 (0, 0)) ∧ w'.heap[g3]? = some (.cells #[.int .i64 g, .slice A2 l.length c2] 105 (0, 0))) (ds := []) #[false, false, false, false, false, false, false, false, false, false, false, false, false, false] (by kernel_rfl) rfl rfl (HS0.out) (fun hHeld => ?_); refine with_tabW sd_rt1.tab sd_rt1.bits (fun HT_ HW_ => ?_)
  refine pure_ (i := 0) (N := some 5) (v := ?_) (a' := ?_) #[true, false, false, false, false, false, false, false, false, false, false, false, false, false] rfl rfl (any_of HT_.out (by kernel_rfl)) (fun _ _ _ h => h) (Or.inl ⟨by rfl, ?_⟩) ?_ ?_
  rotate_left
  · intro w'
    go_simp; first | done | with_reducible rfl
  rotate_left
  · simp only [Act.put, List.setIfInBounds_toArray, List.set_cons_zero, List.set_cons_succ, i64_w, i32_w]
    rfl
  refine pure_ (i := 2) (N := some 7) (v := ?_) (a' := ?_) #[true, false, true, false, false, false, false, false, false, false, false, false, false, false] rfl rfl (any_of HT_.out (by kernel_rfl)) (fun _ _ _ h => h) (Or.inl ⟨by rfl, ?_⟩) ?_ ?_
  rotate_left
  · intro w'
    go_simp; first | done | with_reducible rfl
  rotate_left
  · simp only [Act.put, List.setIfInBounds_toArray, List.set_cons_zero, List.set_cons_succ, i64_w, i32_w]
    rfl
  refine take_ (i := 1) (N := some 6) (v := ?_) (a' := ?_) #[true, true, true, false, false, false, false, false, false, false, false, false, false, false] rfl rfl (take_ofW HT_.out HW_.out (by kernel_rfl)) (fun _ _ _ h => h) (Or.inl ⟨by rfl, ?_⟩) hHeld ?_ ?_
  rotate_left
  · intro w' hS'
    have hz := (blk_cell hS'.2.2.2.1 0).trans rfl
    go_simp; first | done | with_reducible rfl
  rotate_left
  · simp only [Act.put, List.setIfInBounds_toArray, List.set_cons_zero, List.set_cons_succ, i64_w, i32_w]
    rfl
  refine take_ (i := 3) (N := some 8) (v := ?_) (a' := ?_) #[true, true, true, true, false, false, false, false, false, false, false, false, false, false] rfl rfl (take_ofW HT_.out HW_.out (by kernel_rfl)) (fun _ _ _ h => h) (Or.inl ⟨by rfl, ?_⟩) hHeld ?_ ?_
  rotate_left
  · intro w' hS'
    have hz := (blk_cell hS'.2.2.2.2 0).trans rfl
    go_simp; first | done | with_reducible rfl
  rotate_left
  · simp only [Act.put, List.setIfInBounds_toArray, List.set_cons_zero, List.set_cons_succ, i64_w, i32_w]
    rfl
  refine pure_ (i := 4) (N := some 9) (v := .bool false) (a' := ?_) #[true, true, true, true, true, false, false, false, false, false, false, false, false, false] rfl rfl (any_of HT_.out (by kernel_rfl)) (fun _ _ _ h => h) (Or.inl ⟨by rfl, ?_⟩) ?_ ?_
  · intro w'
    go_simp; first | done | with_reducible rfl
  rotate_left
  · simp only [Act.put, List.setIfInBounds_toArray, List.set_cons_zero, List.set_cons_succ, i64_w, i32_w]
    rfl
  refine pure_ (i := 5) (N := some 10) (v := .bool false) (a' := ?_) #[true, true, true, true, true, true, false, false, false, false, false, false, false, false] rfl rfl (any_of HT_.out (by kernel_rfl)) (fun _ _ _ h => h) (Or.inl ⟨by rfl, ?_⟩) ?_ ?_
  · intro w'
    go_simp; first | done | with_reducible rfl
  rotate_left
  · simp only [Act.put, List.setIfInBounds_toArray, List.set_cons_zero, List.set_cons_succ, i64_w, i32_w]
    rfl
  refine pure_ (i := 6) (N := some 11) (v := ?_) (a' := ?_) #[true, true, true, true, true, true, true, false, false, false, false, false, false, false] rfl rfl (any_of HT_.out (by kernel_rfl)) (fun _ _ _ h => h) (Or.inl ⟨by rfl, ?_⟩) ?_ ?_
  rotate_left
  · intro w'
    go_simp; first | done | with_reducible rfl
  rotate_left
  · simp only [Act.put, List.setIfInBounds_toArray, List.set_cons_zero, List.set_cons_succ, i64_w, i32_w]
    rfl
  refine pure_ (i := 9) (N := some 14) (v := ?_) (a' := ?_) #[true, true, true, true, true, true, true, false, false, true, false, false, false, false] rfl rfl (any_of HT_.out (by kernel_rfl)) (fun _ _ _ h => h) (Or.inl ⟨by rfl, ?_⟩) ?_ ?_
  rotate_left
  · intro w'
    go_simp; first | done | with_reducible rfl
  rotate_left
  · simp only [Act.put, List.setIfInBounds_toArray, List.set_cons_zero, List.set_cons_succ, i64_w, i32_w]
    rfl
  refine take_ (i := 7) (N := some 12) (v := ?_) (a' := ?_) #[true, true, true, true, true, true, true, true, false, true, false, false, false, false] rfl rfl (take_ofW HT_.out HW_.out (by kernel_rfl)) (fun _ _ _ h => h) (Or.inl ⟨by rfl, ?_⟩) hHeld ?_ ?_
  rotate_left
  · intro w' hS'
    have hz := (blk_cell hS'.2.2.2.1 1).trans rfl
    go_simp; first | done | with_reducible rfl
  rotate_left
  · simp only [Act.put, List.setIfInBounds_toArray, List.set_cons_zero, List.set_cons_succ, i64_w, i32_w]
    rfl
  refine take_ (i := 10) (N := some 15) (v := ?_) (a' := ?_) #[true, true, true, true, true, true, true, true, false, true, true, false, false, false] rfl rfl (take_ofW HT_.out HW_.out (by kernel_rfl)) (fun _ _ _ h => h) (Or.inl ⟨by rfl, ?_⟩) hHeld ?_ ?_
  rotate_left
  · intro w' hS'
    have hz := (blk_cell hS'.2.2.2.2 1).trans rfl
    go_simp; first | done | with_reducible rfl
  rotate_left
  · simp only [Act.put, List.setIfInBounds_toArray, List.set_cons_zero, List.set_cons_succ, i64_w, i32_w]
    rfl
  refine pure_ (i := 11) (N := some 16) (v := .int .i64 (l.length : Int)) (a' := ?_) #[true, true, true, true, true, true, true, true, false, true, true, true, false, false] rfl rfl (any_of HT_.out (by kernel_rfl)) (fun _ _ _ h => h) (Or.inl ⟨by rfl, ?_⟩) ?_ ?_
  · intro w'
    go_simp; first | done | with_reducible rfl
  rotate_left
  · simp only [Act.put, List.setIfInBounds_toArray, List.set_cons_zero, List.set_cons_succ, i64_w, i32_w]
    rfl
  refine one_ (i := 8) (N := some 13) #[true, true, true, true, true, true, true, true, true, true, true, true, false, false] rfl rfl (one_of HT_.out (by kernel_rfl)) (by decide) (fun K hK => ?_)
  refine goes_ Try.func88 (by kernel_rfl) rfl #[.pointer (some ⟨gp, 0, none⟩)] (by rfl) rfl rfl (by (try simp only [List.map_toArray, List.map_cons, List.map_nil]); first | done | rfl) ?_
  refine (bits_Len_calls gp l base _ hHeld.1).mono ?_
  rintro e w9 ⟨rfl, rfl⟩
  refine ⟨_, rfl, ?_⟩
  refine hK.out _ _ (hHeld) (fun hHeld => ?_)
  clear hK K
  refine norm_ (a' := ?_) ?_ ?_
  rotate_left
  · show Act.put _ (some 13) _ = _
    simp only [Act.put, List.setIfInBounds_toArray, List.set_cons_zero, List.set_cons_succ, i64_w, i32_w]
    rfl
  refine pure_ (i := 12) (N := some 17) (v := .bool false) (a' := ?_) #[true, true, true, true, true, true, true, true, true, true, true, true, true, false] rfl rfl (any_of HT_.out (by kernel_rfl)) (fun _ _ _ h => h) (Or.inl ⟨by rfl, ?_⟩) ?_ ?_
  · intro w'
    go_simp; first | done | with_reducible rfl
  rotate_left
  · simp only [Act.put, List.setIfInBounds_toArray, List.set_cons_zero, List.set_cons_succ, i64_w, i32_w]
    rfl
  refine pure_ (i := 13) (N := some 18) (v := .bool false) (a' := ?_) #[true, true, true, true, true, true, true, true, true, true, true, true, true, true] rfl rfl (any_of HT_.out (by kernel_rfl)) (fun _ _ _ h => h) (Or.inl ⟨by rfl, ?_⟩) ?_ ?_
  · intro w'
    go_simp; first | done | with_reducible rfl
  rotate_left
  · simp only [Act.put, List.setIfInBounds_toArray, List.set_cons_zero, List.set_cons_succ, i64_w, i32_w]
    rfl
  refine done_ (done_of HT_.out (by kernel_rfl)) ?_
  have HX := Aside0.mk hHeld
  clear HT_ HW_ hHeld
  go_upto_region 3 with (fail)
  have HS3 := Aside0.mk (And.intro HX.out.1.drew (And.intro (Kd.C_drew HX.out.2.1) (And.intro (below_drew HX.out.2.2.1) (And.intro (blk_drew HX.out.2.2.2.1) (blk_drew HX.out.2.2.2.2)))))
  refine start_ (n := 12) (S := fun w' => BRow w' base gp l ∧ Kd.bool.C w' A2 l.length l ∧ Below w.heap.size w w' ∧ w'.heap[g2]? = some (.cells #[.int .i64 g, .pointer (some ⟨gp, 0, none⟩)] 90 (0, 0)) ∧ w'.heap[g3]? = some (.cells #[.int .i64 g, .slice A2 l.length c2] 105 (0, 0))) (ds := []) #[false, false, false, false, false, false, false, false, false, false, false, false] (by kernel_rfl) rfl rfl (HS3.out) (fun hHeld => ?_); refine with_tabW sd_rt3.tab sd_rt3.bits (fun HT_ HW_ => ?_)
  refine pure_ (i := 0) (N := some 19) (v := ?_) (a' := ?_) #[true, false, false, false, false, false, false, false, false, false, false, false] rfl rfl (any_of HT_.out (by kernel_rfl)) (fun _ _ _ h => h) (Or.inl ⟨by rfl, ?_⟩) ?_ ?_
  rotate_left
  · intro w'
    go_simp; first | done | with_reducible rfl
  rotate_left
  · simp only [Act.put, List.setIfInBounds_toArray, List.set_cons_zero, List.set_cons_succ, i64_w, i32_w]
    rfl
  refine pure_ (i := 4) (N := some 23) (v := ?_) (a' := ?_) #[true, false, false, false, true, false, false, false, false, false, false, false] rfl rfl (any_of HT_.out (by kernel_rfl)) (fun _ _ _ h => h) (Or.inl ⟨by rfl, ?_⟩) ?_ ?_
  rotate_left
  · intro w'
    go_simp; first | done | with_reducible rfl
  rotate_left
  · simp only [Act.put, List.setIfInBounds_toArray, List.set_cons_zero, List.set_cons_succ, i64_w, i32_w]
    rfl
  refine take_ (i := 1) (N := some 20) (v := ?_) (a' := ?_) #[true, true, false, false, true, false, false, false, false, false, false, false] rfl rfl (take_ofW HT_.out HW_.out (by kernel_rfl)) (fun _ _ _ h => h) (Or.inl ⟨by rfl, ?_⟩) hHeld ?_ ?_
  rotate_left
  · intro w' hS'
    have hz := (blk_cell hS'.2.2.2.1 1).trans rfl
    go_simp; first | done | with_reducible rfl
  rotate_left
  · simp only [Act.put, List.setIfInBounds_toArray, List.set_cons_zero, List.set_cons_succ, i64_w, i32_w]
    rfl
  refine take_ (i := 5) (N := some 24) (v := ?_) (a' := ?_) #[true, true, false, false, true, true, false, false, false, false, false, false] rfl rfl (take_ofW HT_.out HW_.out (by kernel_rfl)) (fun _ _ _ h => h) (Or.inl ⟨by rfl, ?_⟩) hHeld ?_ ?_
  rotate_left
  · intro w' hS'
    have hz := (blk_cell hS'.2.2.2.2 1).trans rfl
    go_simp; first | done | with_reducible rfl
  rotate_left
  · simp only [Act.put, List.setIfInBounds_toArray, List.set_cons_zero, List.set_cons_succ, i64_w, i32_w]
    rfl
  refine pure_ (i := 6) (N := some 25) (v := ?_) (a' := ?_) #[true, true, false, false, true, true, true, false, false, false, false, false] rfl rfl (any_of HT_.out (by kernel_rfl)) (fun _ _ _ h => h) (Or.inl ⟨by rfl, ?_⟩) ?_ ?_
  rotate_left
  · intro w'
    go_simp; first | done | with_reducible rfl
  rotate_left
  · simp only [Act.put, List.setIfInBounds_toArray, List.set_cons_zero, List.set_cons_succ, i64_w, i32_w]
    rfl
  refine join2_ (σ := Option Addr × Nat × Nat) (S' := fun s_ w' => (BRow w' base gp l ∧ Kd.bool.C w' A2 l.length l ∧ Below w.heap.size w w' ∧ w'.heap[g2]? = some (.cells #[.int .i64 g, .pointer (some ⟨gp, 0, none⟩)] 90 (0, 0)) ∧ w'.heap[g3]? = some (.cells #[.int .i64 g, .slice A2 l.length c2] 105 (0, 0))) ∧ Kd.C (Kd.int .u8) w' s_.1 (Rowl.pack l).length (Rowl.pack l)) 4 #[true, true, true, true, true, true, true, true, false, false, false, false] (fun s_ => [(21, .slice s_.1 (Rowl.pack l).length s_.2.1), (26, .pointer (some ⟨s_.2.2, 0, none⟩)), (22, .string (strOfNums (Rowl.pack l)))]) (fun s_ w' => ((BRow w' base gp l ∧ Kd.bool.C w' A2 l.length l ∧ Below w.heap.size w w' ∧ w'.heap[g2]? = some (.cells #[.int .i64 g, .pointer (some ⟨gp, 0, none⟩)] 90 (0, 0)) ∧ w'.heap[g3]? = some (.cells #[.int .i64 g, .slice A2 l.length c2] 105 (0, 0))) ∧ Kd.C (Kd.int .u8) w' s_.1 (Rowl.pack l).length (Rowl.pack l)) ∧ RefRowC w' s_.2.2 l) ?_ (fun hc => ?_)
  rotate_left
  · refine two_ (i := 2) (j := 7) (Ni := some 21) (Nj := some 26) #[true, true, true, false, true, true, true, false, false, false, false, false] #[true, true, false, false, true, true, true, true, false, false, false, false] rfl rfl rfl rfl (two_of HT_.out (by kernel_rfl)) (by decide) (by decide) (fun K hK => ?_) (fun K hK => ?_)
    · refine goes_ Try.func90 (by kernel_rfl) rfl #[.pointer (some ⟨gp, 0, none⟩)] (by rfl) rfl rfl (by (try simp only [List.map_toArray, List.map_cons, List.map_nil]); first | done | rfl) ?_
      refine (bits_Bytes_calls gp l base _ hHeld.1 HL.out).mono ?_
      rintro e w5 ⟨v1, rfl, ho, hb⟩
      refine ⟨_, rfl, ?_⟩
      obtain ⟨A1, c1, rfl⟩ := Kd.R_slice ho
      have hHeld := And.intro (hHeld.1.below hb) (And.intro (Kd.C_below hHeld.2.1 hb) (And.intro (below_step hHeld.2.2.1 hb) (And.intro (blk_below hHeld.2.2.2.1 hb) (blk_below hHeld.2.2.2.2 hb))))
      have hC1 := (Kd.R_reads' ho).2.2
      clear ho hb
      refine hK.out _ _ (hHeld) (fun hHeld => ?_)
      clear hK K
      refine norm_ (a' := ?_) ?_ ?_
      rotate_left
      · show Act.put _ (some 21) _ = _
        simp only [Act.put, List.setIfInBounds_toArray, List.set_cons_zero, List.set_cons_succ, i64_w, i32_w]
        rfl
      refine up_to (fun w' => Kd.C (Kd.int .u8) w' A1 (Rowl.pack l).length (Rowl.pack l)) hHeld hC1 (fun hHeld => ?_)
      refine take_ (i := 3) (N := some 22) (v := .string (strOfNums (Rowl.pack l))) (a' := ?_) #[true, true, true, true, true, true, true, false, false, false, false, false] rfl rfl (take_ofW HT_.out HW_.out (by kernel_rfl)) (fun _ _ _ h => h) (Or.inl ⟨by rfl, ?_⟩) hHeld ?_ ?_
      · intro w' hS'
        have hcv := Kd.C_string (P := Try.prog) (n := (Rowl.pack l).length) (c := c1) Try.underlying23 Try.underlying5 Try.underlying9 (hS'.2)
        go_simp; first | done | with_reducible rfl
      rotate_left
      · simp only [Act.put, List.setIfInBounds_toArray, List.set_cons_zero, List.set_cons_succ, i64_w, i32_w]
        rfl
      refine one_ (i := 7) (N := some 26) #[true, true, true, true, true, true, true, true, false, false, false, false] rfl rfl (one_of HT_.out (by kernel_rfl)) (by decide) (fun K hK => ?_)
      refine box_step (by rfl) (N := 26) rfl (cs := #[.slice A2 l.length c2]) (t := 145) ?hr7 ?_
      case hr7 => first | (go_simp; done) | (go_simp; rfl)
      intro g8 hg8 w6 hbox hb
      have hHeld2 := And.intro (And.intro (hHeld.1.1.below hb) (And.intro (Kd.C_below hHeld.1.2.1 hb) (And.intro (below_step hHeld.1.2.2.1 hb) (And.intro (blk_below hHeld.1.2.2.2.1 hb) (blk_below hHeld.1.2.2.2.2 hb))))) (Kd.C_below hHeld.2 hb)
      have hJ : RefRowC w6 g8 l := ⟨A2, c2, hbox, HC2.out, Kd.C_below hHeld.1.2.1 hb⟩
      clear hbox hb hg8
      have hHeld := hHeld2
      clear hHeld2
      refine hK.out _ _ (hHeld) (fun hHeld => ?_)
      clear hK K
      refine norm_ (a' := ?_) ?_ ?_
      rotate_left
      · show Act.put _ (some 26) _ = _
        simp only [Act.put, List.setIfInBounds_toArray, List.set_cons_zero, List.set_cons_succ, i64_w, i32_w]
        rfl
      have hq := hc (A1, c1, g8) _ (⟨hHeld, hJ⟩)
      simp only [putAll, Act.put, List.setIfInBounds_toArray, List.set_cons_zero, List.set_cons_succ] at hq
      exact hq
    · refine box_step (by rfl) (N := 26) rfl (cs := #[.slice A2 l.length c2]) (t := 145) ?hr7 ?_
      case hr7 => first | (go_simp; done) | (go_simp; rfl)
      intro g8 hg8 w6 hbox hb
      have hHeld2 := And.intro (hHeld.1.below hb) (And.intro (Kd.C_below hHeld.2.1 hb) (And.intro (below_step hHeld.2.2.1 hb) (And.intro (blk_below hHeld.2.2.2.1 hb) (blk_below hHeld.2.2.2.2 hb))))
      have hJ : RefRowC w6 g8 l := ⟨A2, c2, hbox, HC2.out, Kd.C_below hHeld.2.1 hb⟩
      clear hbox hb hg8
      have hHeld := hHeld2
      clear hHeld2
      refine hK.out _ _ (hHeld) (fun hHeld => ?_)
      clear hK K
      refine norm_ (a' := ?_) ?_ ?_
      rotate_left
      · show Act.put _ (some 26) _ = _
        simp only [Act.put, List.setIfInBounds_toArray, List.set_cons_zero, List.set_cons_succ, i64_w, i32_w]
        rfl
      refine one_ (i := 2) (N := some 21) #[true, true, true, false, true, true, true, true, false, false, false, false] rfl rfl (one_of HT_.out (by kernel_rfl)) (by decide) (fun K hK => ?_)
      refine goes_ Try.func90 (by kernel_rfl) rfl #[.pointer (some ⟨gp, 0, none⟩)] (by rfl) rfl rfl (by (try simp only [List.map_toArray, List.map_cons, List.map_nil]); first | done | rfl) ?_
      refine (bits_Bytes_calls gp l base _ hHeld.1 HL.out).mono ?_
      rintro e w5 ⟨v1, rfl, ho, hb⟩
      refine ⟨_, rfl, ?_⟩
      obtain ⟨A1, c1, rfl⟩ := Kd.R_slice ho
      have hJ := hJ.below hb
      have hHeld := And.intro (hHeld.1.below hb) (And.intro (Kd.C_below hHeld.2.1 hb) (And.intro (below_step hHeld.2.2.1 hb) (And.intro (blk_below hHeld.2.2.2.1 hb) (blk_below hHeld.2.2.2.2 hb))))
      have hC1 := (Kd.R_reads' ho).2.2
      clear ho hb
      refine hK.out _ _ (hHeld) (fun hHeld => ?_)
      clear hK K
      refine norm_ (a' := ?_) ?_ ?_
      rotate_left
      · show Act.put _ (some 21) _ = _
        simp only [Act.put, List.setIfInBounds_toArray, List.set_cons_zero, List.set_cons_succ, i64_w, i32_w]
        rfl
      refine up_to (fun w' => Kd.C (Kd.int .u8) w' A1 (Rowl.pack l).length (Rowl.pack l)) hHeld hC1 (fun hHeld => ?_)
      refine take_ (i := 3) (N := some 22) (v := .string (strOfNums (Rowl.pack l))) (a' := ?_) #[true, true, true, true, true, true, true, true, false, false, false, false] rfl rfl (take_ofW HT_.out HW_.out (by kernel_rfl)) (fun _ _ _ h => h) (Or.inl ⟨by rfl, ?_⟩) hHeld ?_ ?_
      · intro w' hS'
        have hcv := Kd.C_string (P := Try.prog) (n := (Rowl.pack l).length) (c := c1) Try.underlying23 Try.underlying5 Try.underlying9 (hS'.2)
        go_simp; first | done | with_reducible rfl
      rotate_left
      · simp only [Act.put, List.setIfInBounds_toArray, List.set_cons_zero, List.set_cons_succ, i64_w, i32_w]
        rfl
      have hq := hc (A1, c1, g8) _ (⟨hHeld, hJ⟩)
      simp only [putAll, Act.put, List.setIfInBounds_toArray, List.set_cons_zero, List.set_cons_succ] at hq
      exact hq
  rintro ⟨A1, c1, g8⟩ w6 hF
  refine norm_ (a' := ?_) ?_ ?_
  rotate_left
  · simp only [putAll, Act.put, List.setIfInBounds_toArray, List.set_cons_zero, List.set_cons_succ, i64_w, i32_w]
    rfl
  have hHeld := hF.1
  have HJ8 := Aside0.mk hF.2
  clear hF
  refine one_ (i := 8) (N := some 27) #[true, true, true, true, true, true, true, true, true, false, false, false] rfl rfl (one_of HT_.out (by kernel_rfl)) (by decide) (fun K hK => ?_)
  refine goes_ Try.func93 (by kernel_rfl) rfl #[.pointer (some ⟨g8, 0, none⟩)] (by rfl) rfl rfl (by (try simp only [List.map_toArray, List.map_cons, List.map_nil]); first | done | rfl) ?_
  refine (ref_Bytes_C g8 l _ HJ8.out HL.out).mono ?_
  rintro e w9 ⟨v9, rfl, ho, hb⟩
  refine ⟨_, rfl, ?_⟩
  obtain ⟨A9, c9, rfl⟩ := Kd.R_slice ho
  have hHeld := And.intro (And.intro (hHeld.1.1.below hb) (And.intro (Kd.C_below hHeld.1.2.1 hb) (And.intro (below_step hHeld.1.2.2.1 hb) (And.intro (blk_below hHeld.1.2.2.2.1 hb) (blk_below hHeld.1.2.2.2.2 hb))))) (Kd.C_below hHeld.2 hb)
  have HC9 := Aside0.mk (Kd.R_reads' ho).2.2
  clear ho hb
  refine hK.out _ _ (hHeld) (fun hHeld => ?_)
  clear hK K
  refine norm_ (a' := ?_) ?_ ?_
  rotate_left
  · show Act.put _ (some 27) _ = _
    simp only [Act.put, List.setIfInBounds_toArray, List.set_cons_zero, List.set_cons_succ, i64_w, i32_w]
    rfl
  refine up_to (fun w' => Kd.C (Kd.int .u8) w' A9 (Rowl.pack l).length (Rowl.pack l)) hHeld HC9.out (fun hHeld => ?_)
  refine take_ (i := 9) (N := some 28) (v := .string (strOfNums (Rowl.pack l))) (a' := ?_) #[true, true, true, true, true, true, true, true, true, true, false, false] rfl rfl (take_ofW HT_.out HW_.out (by kernel_rfl)) (fun _ _ _ h => h) (Or.inl ⟨by rfl, ?_⟩) hHeld ?_ ?_
  · intro w' hS'
    have hcv := Kd.C_string (P := Try.prog) (n := (Rowl.pack l).length) (c := c9) Try.underlying23 Try.underlying5 Try.underlying9 (hS'.2)
    go_simp; first | done | with_reducible rfl
  rotate_left
  · simp only [Act.put, List.setIfInBounds_toArray, List.set_cons_zero, List.set_cons_succ, i64_w, i32_w]
    rfl
  refine pure_ (i := 10) (N := some 29) (v := .bool true) (a' := ?_) #[true, true, true, true, true, true, true, true, true, true, true, false] rfl rfl (any_of HT_.out (by kernel_rfl)) (fun _ _ _ h => h) (Or.inl ⟨by rfl, ?_⟩) ?_ ?_
  · intro w'
    go_simp; first | done | with_reducible rfl
  rotate_left
  · simp only [Act.put, List.setIfInBounds_toArray, List.set_cons_zero, List.set_cons_succ, i64_w, i32_w]
    rfl
  refine pure_ (i := 11) (N := some 4) (v := .bool true) (a' := ?_) #[true, true, true, true, true, true, true, true, true, true, true, true] rfl rfl (any_of HT_.out (by kernel_rfl)) (fun _ _ _ h => h) (Or.inl ⟨by rfl, ?_⟩) ?_ ?_
  · intro w'
    go_simp; first | done | with_reducible rfl
  rotate_left
  · simp only [Act.put, List.setIfInBounds_toArray, List.set_cons_zero, List.set_cons_succ, i64_w, i32_w]
    rfl
  refine done_ (done_of HT_.out (by kernel_rfl)) ?_
  have HBF := Aside0.mk hHeld.1.1.2.2.1
  clear HT_ HW_ hHeld
  go_wp2
  go_ret
  exact ⟨by first | rfl | simp, HBF.out⟩
set_option maxHeartbeats 1000000 in
set_option maxRecDepth 100000 in
theorem group_Of_bad1 (k : Nat) (A0 : Option Addr) (c0 : Nat) (l0 : List S100) (g : Int) (x : List Int) (e0 : Int) (w : World) (hr0 : Kd.C k100 w A0 l0.length l0) (hc0 : l0.length ≤ c0) (h : group_Page.f k l0 = some (x, e0)) (he : e0 ≠ 0) :
    Calls Try.prog 56 #[.int .i64 g, .slice A0 l0.length c0] w fun e w' => e = .returned (.tuple #[.agg #[.int .i64 0, .pointer none], .int .i64 1]) ∧ Below w.heap.size w w' := by
  have hu1 := Try.underlying90
  have HR := Aside0.mk hr0
  have HC := Aside0.mk hc0
  have HP := Aside0.mk h
  have d0 : (e0 != 0) = true := bne_iff_ne.mpr he
  have d0' : (e0 == 0) = false := beq_eq_false_iff_ne.mpr he
  clear he
  have HB := Aside0.mk (Below.refl w.heap.size w)
  clear hr0 hc0 h
  go_enter Try.func56, Try.ntmps56
  go_wp2_with (first
    | ((with_reducible refine gate_dst (N := 4) rfl ?_); refine box_event ?hg (N := 4) ?hd (cs := #[.int .i64 0, .pointer none]) (t := 90) ?hr ?_; (case hd => rfl); (case hg => rfl); (case hr => first | (go_simp; done) | (go_simp; rfl)); intro gb4 hg w3 hbox hb; have HB3 := Aside0.mk (below_step HB.out hb); have BK3 := Aside0.mk hbox; have GE4 := Aside0.mk (show w.heap.size ≤ gb4 by rw [hg]; exact Nat.le_refl _); clear hb hbox hg)
    | (go_at_call 49; go_must (refine (group_Page.calls k _ _ l0 x _ _ (Kd.C_below HR.out HB3.out) HC.out HP.out).mono ?_); rintro e w5 ⟨v5, rfl, ho, hb⟩; obtain ⟨A5, c5, rfl⟩ := Kd.R_slice ho; have HB5 := Aside0.mk (below_step HB3.out hb); have BK5 := Aside0.mk (blk_below BK3.out hb); have hcz0 := (blk_cell BK5.out 0).trans rfl; have hcz1 := (blk_cell BK5.out 1).trans rfl; have hfz0 := blk_frozen BK5.out 0; have hfz1 := blk_frozen BK5.out 1; clear ho hb))
  refine bodyPost_ret (results_ct rfl _ _ gb4 90 #[.int .i64 0, .pointer none] (0, 0) _ rfl (by (with_reducible repeat (first | refine blk_drewN ?_ _ | refine blk_drew ?_ | refine blk_alloc ?_ _)); refine blk_put (cs := #[.int .i64 0, .pointer none]) ?_ 1 _ rfl; (with_reducible repeat (first | refine blk_drewN ?_ _ | refine blk_drew ?_ | refine blk_alloc ?_ _)); refine blk_put (cs := #[.int .i64 0, .pointer none]) ?_ 0 _ rfl; (with_reducible repeat (first | refine blk_drewN ?_ _ | refine blk_drew ?_ | refine blk_alloc ?_ _)); exact BK5.out) Try.underlying90 rfl (by kernel_rfl)) rfl ?_
  refine ⟨by first | rfl | simp, ?_⟩
  repeat (first | (with_reducible first | exact HB5.out | apply below_alloc | apply pw_below_drewN | apply below_drew1 | refine below_set ?_ GE4.out) | exact HB5.out)
set_option maxHeartbeats 1000000 in
set_option maxRecDepth 100000 in
theorem group_Of_bad2 (k : Nat) (A0 : Option Addr) (c0 : Nat) (l0 : List S100) (g : Int) (x : List Int) (e0 : Int) (w : World) (hr0 : Kd.C k100 w A0 l0.length l0) (hc0 : l0.length ≤ c0) (h : group_Page.f k l0 = some (x, e0)) (he : e0 = 0) (hg0 : g < 0) :
    Calls Try.prog 56 #[.int .i64 g, .slice A0 l0.length c0] w fun e w' => e = .returned (.tuple #[.agg #[.int .i64 0, .pointer none], .int .i64 1]) ∧ Below w.heap.size w w' := by
  have hu1 := Try.underlying90
  have HR := Aside0.mk hr0
  have HC := Aside0.mk hc0
  have HP := Aside0.mk h
  subst he
  have d1 : decide (g < 0) = true := decide_eq_true hg0
  clear hg0
  have HB := Aside0.mk (Below.refl w.heap.size w)
  clear hr0 hc0 h
  go_enter Try.func56, Try.ntmps56
  go_wp2_with (first
    | ((with_reducible refine gate_dst (N := 4) rfl ?_); refine box_event ?hg (N := 4) ?hd (cs := #[.int .i64 0, .pointer none]) (t := 90) ?hr ?_; (case hd => rfl); (case hg => rfl); (case hr => first | (go_simp; done) | (go_simp; rfl)); intro gb4 hg w3 hbox hb; have HB3 := Aside0.mk (below_step HB.out hb); have BK3 := Aside0.mk hbox; have GE4 := Aside0.mk (show w.heap.size ≤ gb4 by rw [hg]; exact Nat.le_refl _); clear hb hbox hg)
    | (go_at_call 49; go_must (refine (group_Page.calls k _ _ l0 x _ _ (Kd.C_below HR.out HB3.out) HC.out HP.out).mono ?_); rintro e w5 ⟨v5, rfl, ho, hb⟩; obtain ⟨A5, c5, rfl⟩ := Kd.R_slice ho; have HB5 := Aside0.mk (below_step HB3.out hb); have BK5 := Aside0.mk (blk_below BK3.out hb); have hcz0 := (blk_cell BK5.out 0).trans rfl; have hcz1 := (blk_cell BK5.out 1).trans rfl; have hfz0 := blk_frozen BK5.out 0; have hfz1 := blk_frozen BK5.out 1; clear ho hb))
  refine bodyPost_ret (results_ct rfl _ _ gb4 90 #[.int .i64 0, .pointer none] (0, 0) _ rfl (by (with_reducible repeat (first | refine blk_drewN ?_ _ | refine blk_drew ?_ | refine blk_alloc ?_ _)); refine blk_put (cs := #[.int .i64 0, .pointer none]) ?_ 1 _ rfl; (with_reducible repeat (first | refine blk_drewN ?_ _ | refine blk_drew ?_ | refine blk_alloc ?_ _)); refine blk_put (cs := #[.int .i64 0, .pointer none]) ?_ 0 _ rfl; (with_reducible repeat (first | refine blk_drewN ?_ _ | refine blk_drew ?_ | refine blk_alloc ?_ _)); exact BK5.out) Try.underlying90 rfl (by kernel_rfl)) rfl ?_
  refine ⟨by first | rfl | simp, ?_⟩
  repeat (first | (with_reducible first | exact HB5.out | apply below_alloc | apply pw_below_drewN | apply below_drew1 | refine below_set ?_ GE4.out) | exact HB5.out)
set_option maxHeartbeats 1000000 in
set_option maxRecDepth 100000 in
theorem group_Of_bad3 (k : Nat) (A0 : Option Addr) (c0 : Nat) (l0 : List S100) (g : Int) (x : List Int) (e0 : Int) (w : World) (hr0 : Kd.C k100 w A0 l0.length l0) (hc0 : l0.length ≤ c0) (h : group_Page.f k l0 = some (x, e0)) (he : e0 = 0) (hg0 : ¬ g < 0) (hg1 : 12 ≤ g) :
    Calls Try.prog 56 #[.int .i64 g, .slice A0 l0.length c0] w fun e w' => e = .returned (.tuple #[.agg #[.int .i64 0, .pointer none], .int .i64 1]) ∧ Below w.heap.size w w' := by
  have hu1 := Try.underlying90
  have HR := Aside0.mk hr0
  have HC := Aside0.mk hc0
  have HP := Aside0.mk h
  subst he
  have d1 : decide (g < 0) = false := decide_eq_false hg0
  have d2 : decide (12 ≤ g) = true := decide_eq_true hg1
  clear hg0 hg1
  have HB := Aside0.mk (Below.refl w.heap.size w)
  clear hr0 hc0 h
  go_enter Try.func56, Try.ntmps56
  go_wp2_with (first
    | ((with_reducible refine gate_dst (N := 4) rfl ?_); refine box_event ?hg (N := 4) ?hd (cs := #[.int .i64 0, .pointer none]) (t := 90) ?hr ?_; (case hd => rfl); (case hg => rfl); (case hr => first | (go_simp; done) | (go_simp; rfl)); intro gb4 hg w3 hbox hb; have HB3 := Aside0.mk (below_step HB.out hb); have BK3 := Aside0.mk hbox; have GE4 := Aside0.mk (show w.heap.size ≤ gb4 by rw [hg]; exact Nat.le_refl _); clear hb hbox hg)
    | (go_at_call 49; go_must (refine (group_Page.calls k _ _ l0 x _ _ (Kd.C_below HR.out HB3.out) HC.out HP.out).mono ?_); rintro e w5 ⟨v5, rfl, ho, hb⟩; obtain ⟨A5, c5, rfl⟩ := Kd.R_slice ho; have HB5 := Aside0.mk (below_step HB3.out hb); have BK5 := Aside0.mk (blk_below BK3.out hb); have hcz0 := (blk_cell BK5.out 0).trans rfl; have hcz1 := (blk_cell BK5.out 1).trans rfl; have hfz0 := blk_frozen BK5.out 0; have hfz1 := blk_frozen BK5.out 1; clear ho hb))
  refine bodyPost_ret (results_ct rfl _ _ gb4 90 #[.int .i64 0, .pointer none] (0, 0) _ rfl (by (with_reducible repeat (first | refine blk_drewN ?_ _ | refine blk_drew ?_ | refine blk_alloc ?_ _)); refine blk_put (cs := #[.int .i64 0, .pointer none]) ?_ 1 _ rfl; (with_reducible repeat (first | refine blk_drewN ?_ _ | refine blk_drew ?_ | refine blk_alloc ?_ _)); refine blk_put (cs := #[.int .i64 0, .pointer none]) ?_ 0 _ rfl; (with_reducible repeat (first | refine blk_drewN ?_ _ | refine blk_drew ?_ | refine blk_alloc ?_ _)); exact BK5.out) Try.underlying90 rfl (by kernel_rfl)) rfl ?_
  refine ⟨by first | rfl | simp, ?_⟩
  repeat (first | (with_reducible first | exact HB5.out | apply below_alloc | apply pw_below_drewN | apply below_drew1 | refine below_set ?_ GE4.out) | exact HB5.out)
theorem group_Of_bad (k : Nat) (A0 : Option Addr) (c0 : Nat) (l0 : List S100) (g : Int) (x : List Int) (e0 : Int) (w : World) (hr0 : Kd.C k100 w A0 l0.length l0) (hc0 : l0.length ≤ c0) (h : group_Page.f k l0 = some (x, e0)) (hb : e0 ≠ 0 ∨ g < 0 ∨ 12 ≤ g) :
    Calls Try.prog 56 #[.int .i64 g, .slice A0 l0.length c0] w fun e w' => e = .returned (.tuple #[.agg #[.int .i64 0, .pointer none], .int .i64 1]) ∧ Below w.heap.size w w' := by
  by_cases he : e0 = 0
  · by_cases hg : g < 0
    · exact group_Of_bad2 k A0 c0 l0 g x e0 w hr0 hc0 h he hg
    · exact group_Of_bad3 k A0 c0 l0 g x e0 w hr0 hc0 h he hg (by omega)
  · exact group_Of_bad1 k A0 c0 l0 g x e0 w hr0 hc0 h he
def gp_rt12.T : Bool × List (List Nat × List Nat) := (true, [([], []), ([], []), ([0, 1], [0, 1]), ([2], [2]), ([3], [3]), ([], []), ([], []), ([5, 6], [5, 6]), ([7], [7]), ([8, 4], [8]), ([4, 9], [4, 9])])
def gp_rt12.B : List Nat := [0, 0, 3, 7, 15, 0, 0, 96, 224, 511, 1023]
theorem gp_rt12.tab : rtab .any (opsOf Try.f11 12) = gp_rt12.T := by kernel_rfl
theorem gp_rt12.bits : waitsOk gp_rt12.T.2 gp_rt12.B = true := by kernel_rfl
set_option maxHeartbeats 4000000 in
set_option maxRecDepth 100000 in
theorem ashlarlaw06_GroupPages.okd (A1 A2 : Option Addr) (c1 c2 : Nat) (g : Int) (l : List S100) (b : List Int) (x : List Int) (ee : Int) (o : List S100) (no : Int) (fr : List S100) (w : World) (HAW : Aside0 (∃ k, ashlarlaw06_awake.f k = some true)) (hr1 : Kd.C k100 w A1 l.length l) (hc1 : l.length ≤ c1) (hr2 : Kd.C (Kd.int .u8) w A2 b.length b) (hc2 : b.length ≤ c2) (hl : l.length ≤ 200)
    (HP1 : Aside0 (∃ k, group_Page.f k l = some (x, ee))) (HP2 : Aside0 (∃ k, ashlarref05_Page.f k l = some (x, ee))) (HW1 : Aside0 (∃ k, group_Owners.f k b = some (o, no))) (HW2 : Aside0 (∃ k, ashlarref05_Owners.f k b = some (o, no))) (HSO : Aside0 (∃ k, ashlarlaw06_sameOwners.f k o o = some true))
    (HFO : Aside0 (∀ i : Nat, i < l.length → ∃ k1 k2 v, group_Formed.f k1 (rd_T100 l (i : Int)).f0 (rd_T100 l (i : Int)).f1 = some v ∧ ashlarref05_FormedOwner.f k2 (rd_T100 l (i : Int)).f0 (rd_T100 l (i : Int)).f1 = some v))
    (L : List Bool) (HLM : Aside0 (l.map usedT = L)) (HOF : Aside0 (∃ k, ashlarref05_Of.f k g l = some (g, L, 0))) (he : ee = 0) (hl64 : l.length = 64) (hg0 : 0 ≤ g) (hg1 : g < 12) (HR1 : Aside0 (∃ k, group_Fresh.f k g = some fr)) (HR2 : Aside0 (∃ k, ashlarref05_Fresh.f k g = some fr)) (HSF : Aside0 (∃ k, ashlarlaw06_sameOwners.f k fr fr = some true)) :
    Calls Try.prog 11 #[.int .i64 g, .slice A1 l.length c1, .slice A2 b.length c2] w fun e w' => e = .returned (.bool true) ∧ Below w.heap.size w w' := by
  have q1 : decide (200 < l.length) = false := decide_eq_false (by omega)
  have q2 : decide ((200 : Int) < (l.length : Int)) = false := decide_eq_false (by omega)
  have hu1 := Try.underlying90
  have hu2 := Try.underlying105
  have hu3 := Try.underlying100
  have HR := Aside0.mk hr1
  have HC := Aside0.mk hc1
  have HRB := Aside0.mk hr2
  have HCB := Aside0.mk hc2
  obtain ⟨kA, hA⟩ := HAW.out
  obtain ⟨kP1, hP1⟩ := HP1.out
  obtain ⟨kP2, hP2⟩ := HP2.out
  obtain ⟨kW1, hW1⟩ := HW1.out
  obtain ⟨kW2, hW2⟩ := HW2.out
  obtain ⟨kSO, hSO⟩ := HSO.out
  obtain ⟨kOF, hOF⟩ := HOF.out
  obtain ⟨kR1, hR1⟩ := HR1.out
  obtain ⟨kR2, hR2⟩ := HR2.out
  obtain ⟨kSF, hSF⟩ := HSF.out
  clear HAW HP1 HP2 HW1 HW2 HSO HOF HR1 HR2 HSF hr1 hc1 hr2 hc2
  have HAW := Aside0.mk hA
  have HP1 := Aside0.mk hP1
  have HP2 := Aside0.mk hP2
  have HW1 := Aside0.mk hW1
  have HW2 := Aside0.mk hW2
  have HSO := Aside0.mk hSO
  have HOF := Aside0.mk hOF
  have HR1 := Aside0.mk hR1
  have HR2 := Aside0.mk hR2
  have HSF := Aside0.mk hSF
  have HE : Aside0 (group_Page.f kP1 l = some (x, 0)) := ⟨by rw [hP1, he]⟩
  have HL64 := Aside0.mk hl64
  have HLL : Aside0 (L.length ≤ 4096) := ⟨by rw [← HLM.out, List.length_map, hl64]; decide⟩
  have HG0 := Aside0.mk hg0
  have HG1 := Aside0.mk hg1
  subst he
  clear hA hP1 hP2 hW1 hW2 hSO hOF hR1 hR2 hSF hl64 hg0 hg1
  go_enter Try.func11, Try.ntmps11
  go_upto_region 7 with (first
    | (go_at_call 47; go_must (refine (ashlarlaw06_awake.calls kA true _ HAW.out).mono ?_); rintro e w1 ⟨rfl, hb⟩; have HB1 := Aside0.mk hb; clear hb)
    | (go_at_call 49; go_must (refine (group_Page.calls kP1 _ _ l x _ _ (Kd.C_below HR.out HB1.out) HC.out HP1.out).mono ?_); rintro e w2 ⟨v2, rfl, ho, hb⟩; obtain ⟨A5, c5, rfl⟩ := Kd.R_slice ho; have HB2 := Aside0.mk (below_step HB1.out hb); have HX2 := Aside0.mk (Kd.R_reads' ho).2.2; clear ho hb)
    | (go_at_call 50; go_must (refine (ashlarref05_Page.calls kP2 _ _ l x _ _ (Kd.C_below HR.out HB2.out) HC.out HP2.out).mono ?_); rintro e w3 ⟨v3, rfl, ho, hb⟩; obtain ⟨A6, c6, rfl⟩ := Kd.R_slice ho; have HB3 := Aside0.mk (below_step HB2.out hb); have HX3 := Aside0.mk (Kd.C_below HX2.out hb); have HY3 := Aside0.mk (Kd.R_reads' ho).2.2; clear ho hb)
    | (go_at_call 51; go_must (refine (group_Owners.calls kW1 _ _ b o no _ (Kd.C_below HRB.out HB3.out) HCB.out HW1.out).mono ?_); rintro e w4 ⟨v4, rfl, ho, hb⟩; obtain ⟨A7, c7, rfl⟩ := Kd.R_slice ho; have HB4 := Aside0.mk (below_step HB3.out hb); have HX4 := Aside0.mk (Kd.C_below HX3.out hb); have HY4 := Aside0.mk (Kd.C_below HY3.out hb); have HO4 := Aside0.mk (Kd.R_reads' ho).2.2; have HO4c := Aside0.mk (Kd.R_reads' ho).2.1; clear ho hb)
    | (go_at_call 52; go_must (refine (ashlarref05_Owners.calls kW2 _ _ b o no _ (Kd.C_below HRB.out HB4.out) HCB.out HW2.out).mono ?_); rintro e w5 ⟨v5, rfl, ho, hb⟩; obtain ⟨A8, c8, rfl⟩ := Kd.R_slice ho; have HB5 := Aside0.mk (below_step HB4.out hb); have HX5 := Aside0.mk (Kd.C_below HX4.out hb); have HY5 := Aside0.mk (Kd.C_below HY4.out hb); have HO5 := Aside0.mk (Kd.C_below HO4.out hb); have HV5 := Aside0.mk (Kd.R_reads' ho).2.2; have HV5c := Aside0.mk (Kd.R_reads' ho).2.1; clear ho hb))
  have hcv1 := Kd.C_string (P := Try.prog) (A := A5) (c := c5) Try.underlying23 Try.underlying5 Try.underlying9 HX5.out
  have hcv2 := Kd.C_string (P := Try.prog) (A := A6) (c := c6) Try.underlying23 Try.underlying5 Try.underlying9 HY5.out
  go_upto_region 9 with (first
    | (go_at_call 53; go_must (refine (ashlarlaw06_sameOwners.calls kSO _ _ o _ _ o true _ HO5.out HO4c.out HV5.out HV5c.out HSO.out).mono ?_); rintro e w6 ⟨rfl, hd⟩; have HB6 := Aside0.mk (below_step HB5.out hd.below); clear hd))
  clear hcv1 hcv2
  go_wp2
  go_loopw [69] (fun i wr => ∃ k : Nat, k ≤ l.length ∧ i = .int .i64 k ∧ Aside0 (Below w.heap.size w wr)) (fun i _ => l.length - (intOf i).toNat)
  case atStart => exact ⟨0, Nat.zero_le _, rfl, HB6⟩
  case round =>
    clear HB6 HB5 HB4 HB3 HB2 HB1 HX2 HX3 HX4 HX5 HY3 HY4 HY5 HO4 HO5 HV5
    obtain ⟨k, hk, rfl, HB⟩ := hrel
    by_cases hlt : k < l.length
    · obtain ⟨k1, k2, v, hf1, hf2⟩ := HFO.out k hlt
      have HF1 := Aside0.mk hf1
      have HF2 := Aside0.mk hf2
      have HK0 := Aside0.mk (show 0 ≤ (k : Int) by omega)
      have HK1 := Aside0.mk (show (k : Int) < ((l.length : Nat) : Int) by omega)
      obtain ⟨ad, rfl, _, _⟩ := at_T100 HR.out (k : Int) HK0.out HK1.out
      clear hf1 hf2
      go_upto_region 12 with (fail)
      refine start_ (n := 11) (S := fun w' => Kd.C k100 w' (some ad) l.length l ∧ Below w.heap.size w w') (ds := []) #[false, false, false, false, false, false, false, false, false, false, false] (by kernel_rfl) rfl rfl (⟨Kd.C_below HR.out (below_drew HB.out), below_drew HB.out⟩) (fun hHeld => ?_); refine with_tabW gp_rt12.tab gp_rt12.bits (fun HT_ HW_ => ?_)
      refine pure_ (i := 0) (N := some 72) (v := ?_) (a' := ?_) #[true, false, false, false, false, false, false, false, false, false, false] rfl rfl (any_of HT_.out (by kernel_rfl)) (fun _ _ _ h => h) (Or.inl ⟨by rfl, ?_⟩) ?_ ?_
      rotate_left
      · intro w'
        go_simp; first | done | with_reducible rfl
      rotate_left
      · simp only [Act.put, List.setIfInBounds_toArray, List.set_cons_zero, List.set_cons_succ, i64_w, i32_w]
        rfl
      refine pure_ (i := 1) (N := some 73) (v := ?_) (a' := ?_) #[true, true, false, false, false, false, false, false, false, false, false] rfl rfl (any_of HT_.out (by kernel_rfl)) (fun _ _ _ h => h) (Or.inl ⟨by rfl, ?_⟩) ?_ ?_
      rotate_left
      · intro w'
        go_simp; first | done | with_reducible rfl
      rotate_left
      · simp only [Act.put, List.setIfInBounds_toArray, List.set_cons_zero, List.set_cons_succ, i64_w, i32_w]
        rfl
      refine pure_ (i := 2) (N := some 74) (v := ?_) (a' := ?_) #[true, true, true, false, false, false, false, false, false, false, false] rfl rfl (any_of HT_.out (by kernel_rfl)) (fun _ _ _ h => h) (Or.inl ⟨by rfl, ?_⟩) ?_ ?_
      rotate_left
      · intro w'
        go_simp; first | done | with_reducible rfl
      rotate_left
      · simp only [Act.put, List.setIfInBounds_toArray, List.set_cons_zero, List.set_cons_succ, i64_w, i32_w]
        rfl
      refine pure_ (i := 5) (N := some 77) (v := ?_) (a' := ?_) #[true, true, true, false, false, true, false, false, false, false, false] rfl rfl (any_of HT_.out (by kernel_rfl)) (fun _ _ _ h => h) (Or.inl ⟨by rfl, ?_⟩) ?_ ?_
      rotate_left
      · intro w'
        go_simp; first | done | with_reducible rfl
      rotate_left
      · simp only [Act.put, List.setIfInBounds_toArray, List.set_cons_zero, List.set_cons_succ, i64_w, i32_w]
        rfl
      refine pure_ (i := 6) (N := some 78) (v := ?_) (a' := ?_) #[true, true, true, false, false, true, true, false, false, false, false] rfl rfl (any_of HT_.out (by kernel_rfl)) (fun _ _ _ h => h) (Or.inl ⟨by rfl, ?_⟩) ?_ ?_
      rotate_left
      · intro w'
        go_simp; first | done | with_reducible rfl
      rotate_left
      · simp only [Act.put, List.setIfInBounds_toArray, List.set_cons_zero, List.set_cons_succ, i64_w, i32_w]
        rfl
      refine pure_ (i := 7) (N := some 79) (v := ?_) (a' := ?_) #[true, true, true, false, false, true, true, true, false, false, false] rfl rfl (any_of HT_.out (by kernel_rfl)) (fun _ _ _ h => h) (Or.inl ⟨by rfl, ?_⟩) ?_ ?_
      rotate_left
      · intro w'
        go_simp; first | done | with_reducible rfl
      rotate_left
      · simp only [Act.put, List.setIfInBounds_toArray, List.set_cons_zero, List.set_cons_succ, i64_w, i32_w]
        rfl
      refine take_ (i := 3) (N := some 75) (v := .agg #[.int .u16 (rd_T100 l (k : Int)).f0, .int .u16 (rd_T100 l (k : Int)).f1]) (a' := ?_) #[true, true, true, true, false, true, true, true, false, false, false] rfl rfl (take_ofW HT_.out HW_.out (by kernel_rfl)) (fun _ _ _ h => h) (Or.inl ⟨by rfl, ?_⟩) hHeld ?_ ?_
      · intro w' hS'
        obtain ⟨ad', e9, hx0, hx1⟩ := at_T100 hS'.1 (k : Int) HK0.out HK1.out
        cases e9
        simp only [Int.toNat_natCast] at hx0 hx1
        go_simp; first | done | with_reducible rfl
      rotate_left
      · simp only [Act.put, List.setIfInBounds_toArray, List.set_cons_zero, List.set_cons_succ, i64_w, i32_w]
        rfl
      refine take_ (i := 8) (N := some 80) (v := .agg #[.int .u16 (rd_T100 l (k : Int)).f0, .int .u16 (rd_T100 l (k : Int)).f1]) (a' := ?_) #[true, true, true, true, false, true, true, true, true, false, false] rfl rfl (take_ofW HT_.out HW_.out (by kernel_rfl)) (fun _ _ _ h => h) (Or.inl ⟨by rfl, ?_⟩) hHeld ?_ ?_
      · intro w' hS'
        obtain ⟨ad', e9, hx0, hx1⟩ := at_T100 hS'.1 (k : Int) HK0.out HK1.out
        cases e9
        simp only [Int.toNat_natCast] at hx0 hx1
        go_simp; first | done | with_reducible rfl
      rotate_left
      · simp only [Act.put, List.setIfInBounds_toArray, List.set_cons_zero, List.set_cons_succ, i64_w, i32_w]
        rfl
      refine one_ (i := 4) (N := some 76) #[true, true, true, true, true, true, true, true, true, false, false] rfl rfl (one_of HT_.out (by kernel_rfl)) (by decide) (fun K hK => ?_)
      refine goes_ Try.func54 (by kernel_rfl) rfl #[.agg #[.int .u16 (rd_T100 l (k : Int)).f0, .int .u16 (rd_T100 l (k : Int)).f1]] (by rfl) rfl rfl (by (try simp only [List.map_toArray, List.map_cons, List.map_nil]); first | done | rfl) ?_
      refine (group_Formed.calls _ _ _ _ _ HF1.out).mono ?_
      rintro e w5 ⟨rfl, hb⟩
      refine ⟨_, rfl, ?_⟩
      have hHeld := And.intro (Kd.C_below hHeld.1 hb) (below_step hHeld.2 hb)
      refine hK.out _ _ (hHeld) (fun hHeld => ?_)
      clear hK K
      refine norm_ (a' := ?_) ?_ ?_
      rotate_left
      · show Act.put _ (some 76) _ = _
        simp only [Act.put, List.setIfInBounds_toArray, List.set_cons_zero, List.set_cons_succ, i64_w, i32_w]
        rfl
      refine one_ (i := 9) (N := some 81) #[true, true, true, true, true, true, true, true, true, true, false] rfl rfl (one_of HT_.out (by kernel_rfl)) (by decide) (fun K hK => ?_)
      refine goes_ Try.func55 (by kernel_rfl) rfl #[.agg #[.int .u16 (rd_T100 l (k : Int)).f0, .int .u16 (rd_T100 l (k : Int)).f1]] (by rfl) rfl rfl (by (try simp only [List.map_toArray, List.map_cons, List.map_nil]); first | done | rfl) ?_
      refine (ashlarref05_FormedOwner.calls _ _ _ _ _ HF2.out).mono ?_
      rintro e w6 ⟨rfl, hb⟩
      refine ⟨_, rfl, ?_⟩
      have hHeld := And.intro (Kd.C_below hHeld.1 hb) (below_step hHeld.2 hb)
      refine hK.out _ _ (hHeld) (fun hHeld => ?_)
      clear hK K
      refine norm_ (a' := ?_) ?_ ?_
      rotate_left
      · show Act.put _ (some 81) _ = _
        simp only [Act.put, List.setIfInBounds_toArray, List.set_cons_zero, List.set_cons_succ, i64_w, i32_w]
        rfl
      refine pure_ (i := 10) (N := some 82) (v := .bool false) (a' := ?_) #[true, true, true, true, true, true, true, true, true, true, true] rfl rfl (any_of HT_.out (by kernel_rfl)) (fun _ _ _ h => h) (Or.inl ⟨by rfl, ?_⟩) ?_ ?_
      · intro w'
        go_simp; first | done | with_reducible rfl
      rotate_left
      · simp only [Act.put, List.setIfInBounds_toArray, List.set_cons_zero, List.set_cons_succ, i64_w, i32_w]
        rfl
      refine done_ (done_of HT_.out (by kernel_rfl)) ?_
      have HB7 := Aside0.mk hHeld.2
      clear HT_ HW_ hHeld HB
      go_wp2
      go_roundw
      case rel => exact ⟨k + 1, by omega, by go_num, HB7⟩
      case measure => simp [intOf]; omega
    · obtain rfl : k = l.length := by omega
      go_wp2_with (first
        | (go_at_call 56; go_must (refine (group_Of_ok kP1 _ _ l g x _ (Kd.C_below HR.out HB.out) HC.out HE.out HL64.out HG0.out HG1.out).mono ?_); rintro e w11 ⟨gp, rfl, ho, hb⟩; rw [HLM.out] at ho; have HO11 := Aside0.mk (ho.lower (base' := w.heap.size) HB.out.size); have HB11 := Aside0.mk (below_step HB.out hb); clear ho hb)
        | ((with_reducible refine gate_dst (N := 16) rfl ?_); refine box_event ?hg (N := 16) ?hd (cs := #[.int .i64 0, .pointer none]) (t := 90) ?hr ?_; (case hd => rfl); (case hg => rfl); (case hr => first | (go_simp; done) | (go_simp; rfl)); intro g16 hg w12 hbox hb; have HB12 := Aside0.mk (below_step HB11.out hb); have BK12 := Aside0.mk hbox; have GE16 := Aside0.mk (show w.heap.size ≤ g16 by rw [hg]; exact HB11.out.size); have HO12 := Aside0.mk (HO11.out.below hb); have ac0 := (blk_cell hbox 0).trans rfl; have ac1 := (blk_cell hbox 1).trans rfl; have af0 := blk_frozen hbox 0; have af1 := blk_frozen hbox 1; clear hb hbox hg)
        | (go_at_call 57; go_must (refine (ashlarref05_Of.calls kOF g _ _ l g (L) 0 _ ?s1 HC.out HOF.out).mono ?_); (case s1 => refine Kd.C_below HR.out ?_; repeat (first | (with_reducible first | exact HB12.out | apply below_alloc | apply pw_below_drewN | apply below_drew1 | refine below_set ?_ GE16.out) | exact HB12.out)); rintro e w13 ⟨v13, rfl, ho, hb⟩; obtain ⟨A13, c13, rfl⟩ := Kd.R_slice ho; have HB13 := Aside0.mk (below_step (w := w) (by repeat (first | (with_reducible first | exact HB12.out | apply below_alloc | apply pw_below_drewN | apply below_drew1 | refine below_set ?_ GE16.out) | exact HB12.out)) hb); have BK13 := Aside0.mk (blk_below (g := g16) (o := .cells #[.int .i64 g, .pointer (some ⟨gp, 0, none⟩)] 90 (0, 0)) (by (with_reducible repeat (first | refine blk_drewN ?_ _ | refine blk_drew ?_ | refine blk_alloc ?_ _)); refine blk_put (cs := #[.int .i64 g, .pointer none]) ?_ 1 _ rfl; (with_reducible repeat (first | refine blk_drewN ?_ _ | refine blk_drew ?_ | refine blk_alloc ?_ _)); refine blk_put (cs := #[.int .i64 0, .pointer none]) ?_ 0 _ rfl; (with_reducible repeat (first | refine blk_drewN ?_ _ | refine blk_drew ?_ | refine blk_alloc ?_ _)); exact BK12.out) hb); have HO13 := Aside0.mk (BRow.below (base := w.heap.size) (g := gp) (l := L) (by (with_reducible repeat (first | refine BRow.drewN ?_ _ | refine BRow.drew ?_)); refine BRow.set_ ?_ (blk_put (cs' := #[.int .i64 g, .pointer none]) (by (with_reducible repeat (first | refine blk_drewN ?_ _ | refine blk_drew ?_ | refine blk_alloc ?_ _)); exact BK12.out) 0 _ rfl) (by decide) (by decide) 1 _; (with_reducible repeat (first | refine BRow.drewN ?_ _ | refine BRow.drew ?_)); refine BRow.set_ ?_ BK12.out (by decide) (by decide) 0 _; exact HO12.out) hb); have HV13 := Aside0.mk (Kd.R_reads' ho).2.2; have HV13c := Aside0.mk (Kd.R_reads' ho).2.1; clear ho hb ac0 ac1 af0 af1)
        | ((with_reducible refine gate_dst (N := 17) rfl ?_); refine box_event ?hg (N := 17) ?hd (cs := #[.int .i64 0, .slice none 0 0]) (t := 105) ?hr ?_; (case hd => rfl); (case hg => rfl); (case hr => first | (go_simp; done) | (go_simp; rfl)); intro g17 hg w14 hbox hb; have HB14 := Aside0.mk (below_step HB13.out hb); have BK14 := Aside0.mk (blk_below BK13.out hb); have BK17 := Aside0.mk hbox; have HW14 := Aside0.mk hb; have GE17 := Aside0.mk (show w.heap.size ≤ g17 by rw [hg]; exact HB13.out.size); have GE17' := Aside0.mk (show w13.heap.size ≤ g17 by rw [hg]; exact Nat.le_refl _); have ne1 : g16 ≠ g17 := (by rw [hg]; exact Nat.ne_of_lt (blk_lt BK13.out)); have ne2 := ne1.symm; have HO14 := Aside0.mk (HO13.out.below hb); have ac0 := (blk_cell hbox 0).trans rfl; have ac1 := (blk_cell hbox 1).trans rfl; have af0 := blk_frozen hbox 0; have af1 := blk_frozen hbox 1; have bk14 := BK14.out; have bc0 := (blk_cell bk14 0).trans rfl; have bc1 := (blk_cell bk14 1).trans rfl; have bf0 := blk_frozen bk14 0; have bf1 := blk_frozen bk14 1; clear bk14; clear hb hbox hg)
        | (go_at_call 58; go_must (refine (sameDesc_ok g gp (L) w.heap.size A13 c13 _ ?s1 ?s2 HV13c.out HLL.out).mono ?_); (case s1 => (with_reducible repeat (first | refine BRow.drewN ?_ _ | refine BRow.drew ?_)); refine BRow.set_ ?_ (blk_put (cs' := #[.int .i64 g, .slice none 0 0]) (by (with_reducible repeat (first | refine blk_drewN ?_ _ | refine blk_drew ?_ | refine blk_alloc ?_ _)); exact BK17.out) 0 _ rfl) (by decide) (by decide) 1 _; (with_reducible repeat (first | refine BRow.drewN ?_ _ | refine BRow.drew ?_)); refine BRow.set_ ?_ BK17.out (by decide) (by decide) 0 _; exact HO14.out); (case s2 => refine Kd.C_below HV13.out ?_; repeat (first | (with_reducible first | exact HW14.out | apply below_alloc | apply pw_below_drewN | apply below_drew1 | refine below_set ?_ GE17'.out) | exact HW14.out)); rintro e w15 ⟨rfl, hb⟩; have HB15 := Aside0.mk (below_step (w := w) (by repeat (first | (with_reducible first | exact HB14.out | apply below_alloc | apply pw_below_drewN | apply below_drew1 | refine below_set ?_ GE17.out) | exact HB14.out)) hb); clear hb)
        | (go_at_call 59; go_must (refine (group_Fresh.calls kR1 g fr _ HR1.out).mono ?_); rintro e w16 ⟨v16, rfl, ho, hb⟩; obtain ⟨A16, c16, rfl⟩ := Kd.R_slice ho; have HB16 := Aside0.mk (below_step (w := w) (by repeat (first | (with_reducible first | exact HB15.out | apply below_alloc | apply pw_below_drewN | apply below_drew1 ) | exact HB15.out)) hb); have HF16 := Aside0.mk (Kd.R_reads' ho).2.2; have HF16c := Aside0.mk (Kd.R_reads' ho).2.1; clear ho hb)
        | (go_at_call 60; go_must (refine (ashlarref05_Fresh.calls kR2 g fr _ HR2.out).mono ?_); rintro e w17 ⟨v17, rfl, ho, hb⟩; obtain ⟨A17, c17, rfl⟩ := Kd.R_slice ho; have HB17 := Aside0.mk (below_step HB16.out hb); have HF17 := Aside0.mk (Kd.C_below HF16.out hb); have HG17 := Aside0.mk (Kd.R_reads' ho).2.2; have HG17c := Aside0.mk (Kd.R_reads' ho).2.1; clear ho hb)
        | (go_at_call 53; go_must (refine (ashlarlaw06_sameOwners.calls kSF _ _ fr _ _ fr true _ HF17.out HF16c.out HG17.out HG17c.out HSF.out).mono ?_); rintro e w18 ⟨rfl, hd⟩; have HB18 := Aside0.mk (below_step HB17.out hd.below); clear hd))
      go_ret
      exact ⟨by first | rfl | simp, HB18.out⟩
set_option maxHeartbeats 4000000 in
set_option maxRecDepth 100000 in
theorem ashlarlaw06_GroupPages.bad (A1 A2 : Option Addr) (c1 c2 : Nat) (g : Int) (l : List S100) (b : List Int) (x : List Int) (ee : Int) (o : List S100) (no : Int) (fr : List S100) (w : World) (HAW : Aside0 (∃ k, ashlarlaw06_awake.f k = some true)) (hr1 : Kd.C k100 w A1 l.length l) (hc1 : l.length ≤ c1) (hr2 : Kd.C (Kd.int .u8) w A2 b.length b) (hc2 : b.length ≤ c2) (hl : l.length ≤ 200)
    (HP1 : Aside0 (∃ k, group_Page.f k l = some (x, ee))) (HP2 : Aside0 (∃ k, ashlarref05_Page.f k l = some (x, ee))) (HW1 : Aside0 (∃ k, group_Owners.f k b = some (o, no))) (HW2 : Aside0 (∃ k, ashlarref05_Owners.f k b = some (o, no))) (HSO : Aside0 (∃ k, ashlarlaw06_sameOwners.f k o o = some true))
    (HFO : Aside0 (∀ i : Nat, i < l.length → ∃ k1 k2 v, group_Formed.f k1 (rd_T100 l (i : Int)).f0 (rd_T100 l (i : Int)).f1 = some v ∧ ashlarref05_FormedOwner.f k2 (rd_T100 l (i : Int)).f0 (rd_T100 l (i : Int)).f1 = some v))
    (HOF : Aside0 (∃ k, ashlarref05_Of.f k g l = some (0, [], 1))) (hgb : Aside0 (ee ≠ 0 ∨ g < 0 ∨ 12 ≤ g)) (HR1 : Aside0 (∃ k, group_Fresh.f k g = some fr)) (HR2 : Aside0 (∃ k, ashlarref05_Fresh.f k g = some fr)) (HSF : Aside0 (∃ k, ashlarlaw06_sameOwners.f k fr fr = some true)) :
    Calls Try.prog 11 #[.int .i64 g, .slice A1 l.length c1, .slice A2 b.length c2] w fun e w' => e = .returned (.bool true) ∧ Below w.heap.size w w' := by
  have q1 : decide (200 < l.length) = false := decide_eq_false (by omega)
  have q2 : decide ((200 : Int) < (l.length : Int)) = false := decide_eq_false (by omega)
  have hu1 := Try.underlying90
  have hu2 := Try.underlying105
  have hu3 := Try.underlying100
  have HR := Aside0.mk hr1
  have HC := Aside0.mk hc1
  have HRB := Aside0.mk hr2
  have HCB := Aside0.mk hc2
  obtain ⟨kA, hA⟩ := HAW.out
  obtain ⟨kP1, hP1⟩ := HP1.out
  obtain ⟨kP2, hP2⟩ := HP2.out
  obtain ⟨kW1, hW1⟩ := HW1.out
  obtain ⟨kW2, hW2⟩ := HW2.out
  obtain ⟨kSO, hSO⟩ := HSO.out
  obtain ⟨kOF, hOF⟩ := HOF.out
  obtain ⟨kR1, hR1⟩ := HR1.out
  obtain ⟨kR2, hR2⟩ := HR2.out
  obtain ⟨kSF, hSF⟩ := HSF.out
  clear HAW HP1 HP2 HW1 HW2 HSO HOF HR1 HR2 HSF hr1 hc1 hr2 hc2
  have HAW := Aside0.mk hA
  have HP1 := Aside0.mk hP1
  have HP2 := Aside0.mk hP2
  have HW1 := Aside0.mk hW1
  have HW2 := Aside0.mk hW2
  have HSO := Aside0.mk hSO
  have HOF := Aside0.mk hOF
  have HR1 := Aside0.mk hR1
  have HR2 := Aside0.mk hR2
  have HSF := Aside0.mk hSF
  clear hA hP1 hP2 hW1 hW2 hSO hOF hR1 hR2 hSF
  go_enter Try.func11, Try.ntmps11
  go_upto_region 7 with (first
    | (go_at_call 47; go_must (refine (ashlarlaw06_awake.calls kA true _ HAW.out).mono ?_); rintro e w1 ⟨rfl, hb⟩; have HB1 := Aside0.mk hb; clear hb)
    | (go_at_call 49; go_must (refine (group_Page.calls kP1 _ _ l x _ _ (Kd.C_below HR.out HB1.out) HC.out HP1.out).mono ?_); rintro e w2 ⟨v2, rfl, ho, hb⟩; obtain ⟨A5, c5, rfl⟩ := Kd.R_slice ho; have HB2 := Aside0.mk (below_step HB1.out hb); have HX2 := Aside0.mk (Kd.R_reads' ho).2.2; clear ho hb)
    | (go_at_call 50; go_must (refine (ashlarref05_Page.calls kP2 _ _ l x _ _ (Kd.C_below HR.out HB2.out) HC.out HP2.out).mono ?_); rintro e w3 ⟨v3, rfl, ho, hb⟩; obtain ⟨A6, c6, rfl⟩ := Kd.R_slice ho; have HB3 := Aside0.mk (below_step HB2.out hb); have HX3 := Aside0.mk (Kd.C_below HX2.out hb); have HY3 := Aside0.mk (Kd.R_reads' ho).2.2; clear ho hb)
    | (go_at_call 51; go_must (refine (group_Owners.calls kW1 _ _ b o no _ (Kd.C_below HRB.out HB3.out) HCB.out HW1.out).mono ?_); rintro e w4 ⟨v4, rfl, ho, hb⟩; obtain ⟨A7, c7, rfl⟩ := Kd.R_slice ho; have HB4 := Aside0.mk (below_step HB3.out hb); have HX4 := Aside0.mk (Kd.C_below HX3.out hb); have HY4 := Aside0.mk (Kd.C_below HY3.out hb); have HO4 := Aside0.mk (Kd.R_reads' ho).2.2; have HO4c := Aside0.mk (Kd.R_reads' ho).2.1; clear ho hb)
    | (go_at_call 52; go_must (refine (ashlarref05_Owners.calls kW2 _ _ b o no _ (Kd.C_below HRB.out HB4.out) HCB.out HW2.out).mono ?_); rintro e w5 ⟨v5, rfl, ho, hb⟩; obtain ⟨A8, c8, rfl⟩ := Kd.R_slice ho; have HB5 := Aside0.mk (below_step HB4.out hb); have HX5 := Aside0.mk (Kd.C_below HX4.out hb); have HY5 := Aside0.mk (Kd.C_below HY4.out hb); have HO5 := Aside0.mk (Kd.C_below HO4.out hb); have HV5 := Aside0.mk (Kd.R_reads' ho).2.2; have HV5c := Aside0.mk (Kd.R_reads' ho).2.1; clear ho hb))
  have hcv1 := Kd.C_string (P := Try.prog) (A := A5) (c := c5) Try.underlying23 Try.underlying5 Try.underlying9 HX5.out
  have hcv2 := Kd.C_string (P := Try.prog) (A := A6) (c := c6) Try.underlying23 Try.underlying5 Try.underlying9 HY5.out
  go_upto_region 9 with (first
    | (go_at_call 53; go_must (refine (ashlarlaw06_sameOwners.calls kSO _ _ o _ _ o true _ HO5.out HO4c.out HV5.out HV5c.out HSO.out).mono ?_); rintro e w6 ⟨rfl, hd⟩; have HB6 := Aside0.mk (below_step HB5.out hd.below); clear hd))
  clear hcv1 hcv2
  go_wp2
  go_loopw [69] (fun i wr => ∃ k : Nat, k ≤ l.length ∧ i = .int .i64 k ∧ Aside0 (Below w.heap.size w wr)) (fun i _ => l.length - (intOf i).toNat)
  case atStart => exact ⟨0, Nat.zero_le _, rfl, HB6⟩
  case round =>
    clear HB6 HB5 HB4 HB3 HB2 HB1 HX2 HX3 HX4 HX5 HY3 HY4 HY5 HO4 HO5 HV5
    obtain ⟨k, hk, rfl, HB⟩ := hrel
    by_cases hlt : k < l.length
    · obtain ⟨k1, k2, v, hf1, hf2⟩ := HFO.out k hlt
      have HF1 := Aside0.mk hf1
      have HF2 := Aside0.mk hf2
      have HK0 := Aside0.mk (show 0 ≤ (k : Int) by omega)
      have HK1 := Aside0.mk (show (k : Int) < ((l.length : Nat) : Int) by omega)
      obtain ⟨ad, rfl, _, _⟩ := at_T100 HR.out (k : Int) HK0.out HK1.out
      clear hf1 hf2
      go_upto_region 12 with (fail)
      refine start_ (n := 11) (S := fun w' => Kd.C k100 w' (some ad) l.length l ∧ Below w.heap.size w w') (ds := []) #[false, false, false, false, false, false, false, false, false, false, false] (by kernel_rfl) rfl rfl (⟨Kd.C_below HR.out (below_drew HB.out), below_drew HB.out⟩) (fun hHeld => ?_); refine with_tabW gp_rt12.tab gp_rt12.bits (fun HT_ HW_ => ?_)
      refine pure_ (i := 0) (N := some 72) (v := ?_) (a' := ?_) #[true, false, false, false, false, false, false, false, false, false, false] rfl rfl (any_of HT_.out (by kernel_rfl)) (fun _ _ _ h => h) (Or.inl ⟨by rfl, ?_⟩) ?_ ?_
      rotate_left
      · intro w'
        go_simp; first | done | with_reducible rfl
      rotate_left
      · simp only [Act.put, List.setIfInBounds_toArray, List.set_cons_zero, List.set_cons_succ, i64_w, i32_w]
        rfl
      refine pure_ (i := 1) (N := some 73) (v := ?_) (a' := ?_) #[true, true, false, false, false, false, false, false, false, false, false] rfl rfl (any_of HT_.out (by kernel_rfl)) (fun _ _ _ h => h) (Or.inl ⟨by rfl, ?_⟩) ?_ ?_
      rotate_left
      · intro w'
        go_simp; first | done | with_reducible rfl
      rotate_left
      · simp only [Act.put, List.setIfInBounds_toArray, List.set_cons_zero, List.set_cons_succ, i64_w, i32_w]
        rfl
      refine pure_ (i := 2) (N := some 74) (v := ?_) (a' := ?_) #[true, true, true, false, false, false, false, false, false, false, false] rfl rfl (any_of HT_.out (by kernel_rfl)) (fun _ _ _ h => h) (Or.inl ⟨by rfl, ?_⟩) ?_ ?_
      rotate_left
      · intro w'
        go_simp; first | done | with_reducible rfl
      rotate_left
      · simp only [Act.put, List.setIfInBounds_toArray, List.set_cons_zero, List.set_cons_succ, i64_w, i32_w]
        rfl
      refine pure_ (i := 5) (N := some 77) (v := ?_) (a' := ?_) #[true, true, true, false, false, true, false, false, false, false, false] rfl rfl (any_of HT_.out (by kernel_rfl)) (fun _ _ _ h => h) (Or.inl ⟨by rfl, ?_⟩) ?_ ?_
      rotate_left
      · intro w'
        go_simp; first | done | with_reducible rfl
      rotate_left
      · simp only [Act.put, List.setIfInBounds_toArray, List.set_cons_zero, List.set_cons_succ, i64_w, i32_w]
        rfl
      refine pure_ (i := 6) (N := some 78) (v := ?_) (a' := ?_) #[true, true, true, false, false, true, true, false, false, false, false] rfl rfl (any_of HT_.out (by kernel_rfl)) (fun _ _ _ h => h) (Or.inl ⟨by rfl, ?_⟩) ?_ ?_
      rotate_left
      · intro w'
        go_simp; first | done | with_reducible rfl
      rotate_left
      · simp only [Act.put, List.setIfInBounds_toArray, List.set_cons_zero, List.set_cons_succ, i64_w, i32_w]
        rfl
      refine pure_ (i := 7) (N := some 79) (v := ?_) (a' := ?_) #[true, true, true, false, false, true, true, true, false, false, false] rfl rfl (any_of HT_.out (by kernel_rfl)) (fun _ _ _ h => h) (Or.inl ⟨by rfl, ?_⟩) ?_ ?_
      rotate_left
      · intro w'
        go_simp; first | done | with_reducible rfl
      rotate_left
      · simp only [Act.put, List.setIfInBounds_toArray, List.set_cons_zero, List.set_cons_succ, i64_w, i32_w]
        rfl
      refine take_ (i := 3) (N := some 75) (v := .agg #[.int .u16 (rd_T100 l (k : Int)).f0, .int .u16 (rd_T100 l (k : Int)).f1]) (a' := ?_) #[true, true, true, true, false, true, true, true, false, false, false] rfl rfl (take_ofW HT_.out HW_.out (by kernel_rfl)) (fun _ _ _ h => h) (Or.inl ⟨by rfl, ?_⟩) hHeld ?_ ?_
      · intro w' hS'
        obtain ⟨ad', e9, hx0, hx1⟩ := at_T100 hS'.1 (k : Int) HK0.out HK1.out
        cases e9
        simp only [Int.toNat_natCast] at hx0 hx1
        go_simp; first | done | with_reducible rfl
      rotate_left
      · simp only [Act.put, List.setIfInBounds_toArray, List.set_cons_zero, List.set_cons_succ, i64_w, i32_w]
        rfl
      refine take_ (i := 8) (N := some 80) (v := .agg #[.int .u16 (rd_T100 l (k : Int)).f0, .int .u16 (rd_T100 l (k : Int)).f1]) (a' := ?_) #[true, true, true, true, false, true, true, true, true, false, false] rfl rfl (take_ofW HT_.out HW_.out (by kernel_rfl)) (fun _ _ _ h => h) (Or.inl ⟨by rfl, ?_⟩) hHeld ?_ ?_
      · intro w' hS'
        obtain ⟨ad', e9, hx0, hx1⟩ := at_T100 hS'.1 (k : Int) HK0.out HK1.out
        cases e9
        simp only [Int.toNat_natCast] at hx0 hx1
        go_simp; first | done | with_reducible rfl
      rotate_left
      · simp only [Act.put, List.setIfInBounds_toArray, List.set_cons_zero, List.set_cons_succ, i64_w, i32_w]
        rfl
      refine one_ (i := 4) (N := some 76) #[true, true, true, true, true, true, true, true, true, false, false] rfl rfl (one_of HT_.out (by kernel_rfl)) (by decide) (fun K hK => ?_)
      refine goes_ Try.func54 (by kernel_rfl) rfl #[.agg #[.int .u16 (rd_T100 l (k : Int)).f0, .int .u16 (rd_T100 l (k : Int)).f1]] (by rfl) rfl rfl (by (try simp only [List.map_toArray, List.map_cons, List.map_nil]); first | done | rfl) ?_
      refine (group_Formed.calls _ _ _ _ _ HF1.out).mono ?_
      rintro e w5 ⟨rfl, hb⟩
      refine ⟨_, rfl, ?_⟩
      have hHeld := And.intro (Kd.C_below hHeld.1 hb) (below_step hHeld.2 hb)
      refine hK.out _ _ (hHeld) (fun hHeld => ?_)
      clear hK K
      refine norm_ (a' := ?_) ?_ ?_
      rotate_left
      · show Act.put _ (some 76) _ = _
        simp only [Act.put, List.setIfInBounds_toArray, List.set_cons_zero, List.set_cons_succ, i64_w, i32_w]
        rfl
      refine one_ (i := 9) (N := some 81) #[true, true, true, true, true, true, true, true, true, true, false] rfl rfl (one_of HT_.out (by kernel_rfl)) (by decide) (fun K hK => ?_)
      refine goes_ Try.func55 (by kernel_rfl) rfl #[.agg #[.int .u16 (rd_T100 l (k : Int)).f0, .int .u16 (rd_T100 l (k : Int)).f1]] (by rfl) rfl rfl (by (try simp only [List.map_toArray, List.map_cons, List.map_nil]); first | done | rfl) ?_
      refine (ashlarref05_FormedOwner.calls _ _ _ _ _ HF2.out).mono ?_
      rintro e w6 ⟨rfl, hb⟩
      refine ⟨_, rfl, ?_⟩
      have hHeld := And.intro (Kd.C_below hHeld.1 hb) (below_step hHeld.2 hb)
      refine hK.out _ _ (hHeld) (fun hHeld => ?_)
      clear hK K
      refine norm_ (a' := ?_) ?_ ?_
      rotate_left
      · show Act.put _ (some 81) _ = _
        simp only [Act.put, List.setIfInBounds_toArray, List.set_cons_zero, List.set_cons_succ, i64_w, i32_w]
        rfl
      refine pure_ (i := 10) (N := some 82) (v := .bool false) (a' := ?_) #[true, true, true, true, true, true, true, true, true, true, true] rfl rfl (any_of HT_.out (by kernel_rfl)) (fun _ _ _ h => h) (Or.inl ⟨by rfl, ?_⟩) ?_ ?_
      · intro w'
        go_simp; first | done | with_reducible rfl
      rotate_left
      · simp only [Act.put, List.setIfInBounds_toArray, List.set_cons_zero, List.set_cons_succ, i64_w, i32_w]
        rfl
      refine done_ (done_of HT_.out (by kernel_rfl)) ?_
      have HB7 := Aside0.mk hHeld.2
      clear HT_ HW_ hHeld HB
      go_wp2
      go_roundw
      case rel => exact ⟨k + 1, by omega, by go_num, HB7⟩
      case measure => simp [intOf]; omega
    · obtain rfl : k = l.length := by omega
      go_wp2_with (first
        | (go_at_call 56; go_must (refine (group_Of_bad kP1 _ _ l g x ee _ (Kd.C_below HR.out HB.out) HC.out HP1.out hgb.out).mono ?_); rintro e w11 ⟨rfl, hb⟩; have HB11 := Aside0.mk (below_step HB.out hb); clear hb)
        | ((with_reducible refine gate_dst (N := 16) rfl ?_); refine box_event ?hg (N := 16) ?hd (cs := #[.int .i64 0, .pointer none]) (t := 90) ?hr ?_; (case hd => rfl); (case hg => rfl); (case hr => first | (go_simp; done) | (go_simp; rfl)); intro g16 hg w12 hbox hb; have HB12 := Aside0.mk (below_step HB11.out hb); have BK12 := Aside0.mk hbox; have GE16 := Aside0.mk (show w.heap.size ≤ g16 by rw [hg]; exact HB11.out.size); have ac0 := (blk_cell hbox 0).trans rfl; have ac1 := (blk_cell hbox 1).trans rfl; have af0 := blk_frozen hbox 0; have af1 := blk_frozen hbox 1; clear hb hbox hg)
        | (go_at_call 57; go_must (refine (ashlarref05_Of.calls kOF g _ _ l 0 [] 1 _ ?s1 HC.out HOF.out).mono ?_); (case s1 => refine Kd.C_below HR.out ?_; repeat (first | (with_reducible first | exact HB12.out | apply below_alloc | apply pw_below_drewN | apply below_drew1 | refine below_set ?_ GE16.out) | exact HB12.out)); rintro e w13 ⟨v13, rfl, ho, hb⟩; obtain ⟨A13, c13, rfl⟩ := Kd.R_slice ho; have HB13 := Aside0.mk (below_step (w := w) (by repeat (first | (with_reducible first | exact HB12.out | apply below_alloc | apply pw_below_drewN | apply below_drew1 | refine below_set ?_ GE16.out) | exact HB12.out)) hb); have BK13 := Aside0.mk (blk_below (g := g16) (o := .cells #[.int .i64 0, .pointer none] 90 (0, 0)) (by (with_reducible repeat (first | refine blk_drewN ?_ _ | refine blk_drew ?_ | refine blk_alloc ?_ _)); refine blk_put (cs := #[.int .i64 0, .pointer none]) ?_ 1 _ rfl; (with_reducible repeat (first | refine blk_drewN ?_ _ | refine blk_drew ?_ | refine blk_alloc ?_ _)); refine blk_put (cs := #[.int .i64 0, .pointer none]) ?_ 0 _ rfl; (with_reducible repeat (first | refine blk_drewN ?_ _ | refine blk_drew ?_ | refine blk_alloc ?_ _)); exact BK12.out) hb); have HV13 := Aside0.mk (Kd.R_reads' ho).2.2; have HV13c := Aside0.mk (Kd.R_reads' ho).2.1; clear ho hb ac0 ac1 af0 af1)
        | ((with_reducible refine gate_dst (N := 17) rfl ?_); refine box_event ?hg (N := 17) ?hd (cs := #[.int .i64 0, .slice none 0 0]) (t := 105) ?hr ?_; (case hd => rfl); (case hg => rfl); (case hr => first | (go_simp; done) | (go_simp; rfl)); intro g17 hg w14 hbox hb; have HB14 := Aside0.mk (below_step HB13.out hb); have BK14 := Aside0.mk (blk_below BK13.out hb); have BK17 := Aside0.mk hbox; have HW14 := Aside0.mk hb; have GE17 := Aside0.mk (show w.heap.size ≤ g17 by rw [hg]; exact HB13.out.size); have GE17' := Aside0.mk (show w13.heap.size ≤ g17 by rw [hg]; exact Nat.le_refl _); have ne1 : g16 ≠ g17 := (by rw [hg]; exact Nat.ne_of_lt (blk_lt BK13.out)); have ne2 := ne1.symm; have ac0 := (blk_cell hbox 0).trans rfl; have ac1 := (blk_cell hbox 1).trans rfl; have af0 := blk_frozen hbox 0; have af1 := blk_frozen hbox 1; have bk14 := BK14.out; have bc0 := (blk_cell bk14 0).trans rfl; have bc1 := (blk_cell bk14 1).trans rfl; have bf0 := blk_frozen bk14 0; have bf1 := blk_frozen bk14 1; clear bk14; clear hb hbox hg)
        | (go_at_call 59; go_must (refine (group_Fresh.calls kR1 g fr _ HR1.out).mono ?_); rintro e w16 ⟨v16, rfl, ho, hb⟩; obtain ⟨A16, c16, rfl⟩ := Kd.R_slice ho; have HB16 := Aside0.mk (below_step (w := w) (by repeat (first | (with_reducible first | exact HB14.out | apply below_alloc | apply pw_below_drewN | apply below_drew1 | refine below_set ?_ GE17.out) | exact HB14.out)) hb); have HF16 := Aside0.mk (Kd.R_reads' ho).2.2; have HF16c := Aside0.mk (Kd.R_reads' ho).2.1; clear ho hb)
        | (go_at_call 60; go_must (refine (ashlarref05_Fresh.calls kR2 g fr _ HR2.out).mono ?_); rintro e w17 ⟨v17, rfl, ho, hb⟩; obtain ⟨A17, c17, rfl⟩ := Kd.R_slice ho; have HB17 := Aside0.mk (below_step HB16.out hb); have HF17 := Aside0.mk (Kd.C_below HF16.out hb); have HG17 := Aside0.mk (Kd.R_reads' ho).2.2; have HG17c := Aside0.mk (Kd.R_reads' ho).2.1; clear ho hb)
        | (go_at_call 53; go_must (refine (ashlarlaw06_sameOwners.calls kSF _ _ fr _ _ fr true _ HF17.out HF16c.out HG17.out HG17c.out HSF.out).mono ?_); rintro e w18 ⟨rfl, hd⟩; have HB18 := Aside0.mk (below_step HB17.out hd.below); clear hd))
      go_ret
      exact ⟨by first | rfl | simp, HB18.out⟩
set_option maxHeartbeats 800000 in
set_option maxRecDepth 100000 in
theorem ashlarlaw06_GroupPages.long (A1 A2 : Option Addr) (c1 c2 n2 : Nat) (g : Int) (n1 : Nat) (w : World) (HAW : Aside0 (∃ k, ashlarlaw06_awake.f k = some true)) (h : 200 < n1) : Calls Try.prog 11 #[.int .i64 g, .slice A1 n1 c1, .slice A2 n2 c2] w fun e w' => e = .returned (.bool true) ∧ Below w.heap.size w w' := by
  have q1 : decide (200 < n1) = true := decide_eq_true h
  have q2 : decide ((200 : Int) < (n1 : Int)) = true := decide_eq_true (by omega)
  obtain ⟨kA, hA⟩ := HAW.out
  have HA := Aside0.mk hA
  clear h HAW hA
  have HB := Aside0.mk (Below.refl w.heap.size w)
  go_enter Try.func11, Try.ntmps11
  go_wp2_with (first
    | (go_at_call 47; go_must (refine (ashlarlaw06_awake.calls kA true _ HA.out).mono ?_); rintro e w1 ⟨rfl, hb⟩; have HB1 := Aside0.mk (below_step HB.out hb); clear HB hb; have HB := HB1; clear HB1))
  go_ret
  exact ⟨by simp, HB.out⟩
/-- The law's plain part: what the printed functions tell, of any owners and any page. -/
def ashlarlaw06_GroupPages.Pure : Prop := (∃ k, ashlarlaw06_awake.f k = some true) ∧ ∀ (g : Int) (l : List S100) (b : List Int), -9223372036854775808 ≤ g → g ≤ 9223372036854775807 → (∀ o ∈ l, 0 ≤ o.f0 ∧ o.f0 ≤ 65535 ∧ 0 ≤ o.f1 ∧ o.f1 ≤ 65535) → (∀ x ∈ b, 0 ≤ x ∧ x ≤ 255) → b.length < 140737488355328 → l.length ≤ 200 →
  ∃ x ee o no fr, (∃ k, group_Page.f k l = some (x, ee)) ∧ (∃ k, ashlarref05_Page.f k l = some (x, ee)) ∧ (∃ k, group_Owners.f k b = some (o, no)) ∧ (∃ k, ashlarref05_Owners.f k b = some (o, no)) ∧ (∃ k, ashlarlaw06_sameOwners.f k o o = some true)
    ∧ (∀ i : Nat, i < l.length → ∃ k1 k2 v, group_Formed.f k1 (rd_T100 l (i : Int)).f0 (rd_T100 l (i : Int)).f1 = some v ∧ ashlarref05_FormedOwner.f k2 (rd_T100 l (i : Int)).f0 (rd_T100 l (i : Int)).f1 = some v)
    ∧ ((ee = 0 ∧ l.length = 64 ∧ 0 ≤ g ∧ g < 12 ∧ (∃ k, ashlarref05_Of.f k g l = some (g, l.map usedT, 0))) ∨ ((ee ≠ 0 ∨ g < 0 ∨ 12 ≤ g) ∧ (∃ k, ashlarref05_Of.f k g l = some (0, [], 1))))
    ∧ (∃ k, group_Fresh.f k g = some fr) ∧ (∃ k, ashlarref05_Fresh.f k g = some fr) ∧ (∃ k, ashlarlaw06_sameOwners.f k fr fr = some true)
theorem ashlarlaw06_GroupPages.walk (P : ashlarlaw06_GroupPages.Pure) (g : Int) (A1 : Option Addr) (c1 : Nat) (l : List S100) (A2 : Option Addr) (c2 : Nat) (b : List Int) (w : World) (hg : -9223372036854775808 ≤ g ∧ g ≤ 9223372036854775807) (hr1 : Kd.C k100 w A1 l.length l) (hc1 : l.length ≤ c1) (hw1 : ∀ o ∈ l, 0 ≤ o.f0 ∧ o.f0 ≤ 65535 ∧ 0 ≤ o.f1 ∧ o.f1 ≤ 65535) (hr2 : Kd.C (Kd.int .u8) w A2 b.length b) (hc2 : b.length ≤ c2) (hby : ∀ x ∈ b, 0 ≤ x ∧ x ≤ 255) (hbl : b.length < 140737488355328) :
    Calls Try.prog 11 #[.int .i64 g, .slice A1 l.length c1, .slice A2 b.length c2] w fun e w' => e = .returned (.bool true) ∧ Below w.heap.size w w' := by
  by_cases h : 200 < l.length
  · exact ashlarlaw06_GroupPages.long A1 A2 c1 c2 b.length g l.length w ⟨P.1⟩ h
  · obtain ⟨x, ee, o, no, fr, hp1, hp2, hw1', hw2', hso, hfo, hof, hf1, hf2, hsf⟩ := P.2 g l b hg.1 hg.2 hw1 hby hbl (by omega)
    rcases hof with ⟨he, hl64, hg0, hg1, hof⟩ | ⟨hgb, hof⟩
    · exact ashlarlaw06_GroupPages.okd A1 A2 c1 c2 g l b x ee o no fr w ⟨P.1⟩ hr1 hc1 hr2 hc2 (by omega) ⟨hp1⟩ ⟨hp2⟩ ⟨hw1'⟩ ⟨hw2'⟩ ⟨hso⟩ ⟨hfo⟩ (l.map usedT) ⟨rfl⟩ ⟨hof⟩ he hl64 hg0 hg1 ⟨hf1⟩ ⟨hf2⟩ ⟨hsf⟩
    · exact ashlarlaw06_GroupPages.bad A1 A2 c1 c2 g l b x ee o no fr w ⟨P.1⟩ hr1 hc1 hr2 hc2 (by omega) ⟨hp1⟩ ⟨hp2⟩ ⟨hw1'⟩ ⟨hw2'⟩ ⟨hso⟩ ⟨hfo⟩ ⟨hof⟩ ⟨hgb⟩ ⟨hf1⟩ ⟨hf2⟩ ⟨hsf⟩


end Go.Proofs.Ytignifnkjlldpaa.PGroupPages
