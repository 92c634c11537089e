/- Written by a program of this session (xprint.py) out of the translation. What is proved, in the end: the Go law BitsRun answers true at every input, and its arguments read behind the call as before; no condition. -/
import Derived.Test.YtpcdfmfmakahkaaPBitsRunx0
import Derived.Test.YtpcdfmfmakahkaaPBitsRunx1
namespace Go.Proofs.Ytpcdfmfmakahkaa.PBitsRun
open Go.RowKit Go.Proofs.YtpcdfmfmakahkaaW.PrintWords Go.Proofs.YtpcdfmfmakahkaaW.PrintLast Go.Proofs.YtpcdfmfmakahkaaW.PrintMore
attribute [local go_sem] max2_int min2_int max_two min_two max_three min_three max_four min_four   -- for this text's walks alone
set_option linter.unusedVariables false
set_option linter.unusedSimpArgs false

/-! ### ashlarlaw01_BitsRun: function 8, by hand -/
/-- How many bytes a row of n bits has; how many bits a new row has. -/
def rowBytes (n : Int) : Int := (n + 7).tdiv 8
def clampRow (n : Int) : Int := if 4096 < if n < 0 then 0 else n then 4096 else if n < 0 then 0 else n
theorem clampRow_0 (n : Int) : 0 ≤ clampRow n := by unfold clampRow; omega
theorem clampRow_1 (n : Int) : clampRow n ≤ 4096 := by unfold clampRow; omega
theorem rowBytes_0 {m : Int} (h0 : 0 ≤ m) (h1 : m ≤ 4096) : 0 ≤ rowBytes m ∧ rowBytes m ≤ 512 := by unfold rowBytes; rw [Int.tdiv_eq_ediv_of_nonneg (by omega)]; omega
set_option maxHeartbeats 800000 in
set_option maxRecDepth 100000 in
theorem bits_New_calls (n : Int) (w : World) : Calls Try.prog 51 #[.int .i64 n] w fun e w' => ∃ g v, e = .returned (.pointer (some ⟨g, 0, none⟩)) ∧ w'.heap[g]? = some (.cells #[.int .i64 (clampRow n), v] 64 (0, 0)) ∧ Kd.R (Kd.int .u8) 5 w' w.heap.size (fun k => k < g) v (List.replicate (rowBytes (clampRow n)).toNat 0) ∧ w.heap.size ≤ g ∧ Below w.heap.size w w' := by
  have hu := Try.underlying64
  have info5 : (Try.prog.info? 5).map (fun i => (i.zero, i.size, i.bytes)) = some (some (.int .u8 0), 1, 1) := by kernel_rfl
  obtain ⟨m, hm⟩ : ∃ m, m = clampRow n := ⟨_, rfl⟩
  have hm0 : 0 ≤ m := by rw [hm]; exact clampRow_0 n
  have hm1 : m ≤ 4096 := by rw [hm]; exact clampRow_1 n
  obtain ⟨j, hj⟩ : ∃ j, j = rowBytes m := ⟨_, rfl⟩
  rw [← hm, ← hj]
  have hj0 := (rowBytes_0 hm0 hm1).1
  have hj1 := (rowBytes_0 hm0 hm1).2
  rw [← hj] at hj0 hj1
  go_enter Try.func51, Try.ntmps51
  go_upto_region 2 with (fail)
  rw [show (if 4096 < if n < 0 then 0 else n then 4096 else if n < 0 then 0 else n) = m from hm.symm]
  have e1 : IntKind.i64.wrap (m + 8) = m + 8 := by rw [i64_w]; unfold wrap64; omega
  have e2 : IntKind.i64.wrap (m + 8 - 1) = m + 7 := by rw [i64_w]; unfold wrap64; omega
  have e3 : (m + 7).tdiv 8 = j := hj.symm
  have e4 : IntKind.i64.wrap j = j := by rw [i64_w]; unfold wrap64; omega
  have HJ0 := Aside0.mk hj0
  have HJ1 := Aside0.mk hj1
  clear hm hj hm0 hm1 hj0 hj1
  go_wp2_with (first
    | ((with_reducible refine gate_dst (N := 11) rfl ?_); refine Kd.R_make (Kd.int .u8) _ 5 rfl (N := 11) rfl 28 _ _ rfl j rfl rfl Try.underlying28 (.int .u8 0) 1 info5 rfl (by decide) (by omega) 0 (ok := fun _ => True) (okp := fun _ => True) rfl (fun _ hk => hk) trivial HJ0.out (by have := HJ0.out; have := HJ1.out; omega) (Below.refl _ _) (Nat.le_refl _) ?_; intro v w1 ho hb hg_ hnew_; clear hg_ hnew_; obtain ⟨A2, c2, rfl⟩ := Kd.R_slice ho; have HO1 := Aside0.mk (Kd.R_mono (ok' := fun k => k < w1.heap.size) (Kd.R_bound ho) (fun k hk => hk.2.2.1)); have HB1 := Aside0.mk hb; clear ho hb)
    | ((with_reducible refine gate_dst (N := 13) rfl ?_); refine box_event ?hg (N := 13) ?hd (cs := #[.int .i64 m, .slice A2 (List.replicate j.toNat (0 : Int)).length c2]) (t := 64) ?hr ?_; (case hd => rfl); (case hg => rfl); (case hr => first | (go_simp; done) | (go_simp; rfl)); intro gb hg w2 hbox hb; have HB2 := Aside0.mk (below_step HB1.out hb); have BK := Aside0.mk hbox; have HO2 := Aside0.mk (Kd.R_below HO1.out hb); have HG := Aside0.mk hg; clear hb hbox hg))
  all_goals
    go_ret
    refine ⟨gb, (by first | rfl | simp), _, BK.out, ?_, ?_, HB2.out⟩
    · have h := HO2.out
      rw [HG.out]
      exact h
    · rw [HG.out]
      exact HB1.out.size
theorem clampRow_in {n : Int} (h0 : 0 ≤ n) (h1 : n ≤ 4096) : clampRow n = n := by unfold clampRow; omega
set_option maxHeartbeats 800000 in
set_option maxRecDepth 100000 in
theorem bits_Of_even (n : Int) (A0 : Option Addr) (c0 : Nat) (b : List Int) (w : World) (hr0 : Kd.C (Kd.int .u8) w A0 b.length b) (hc0 : b.length ≤ c0) (h0 : 0 ≤ n) (h1 : n ≤ 4096) (h2 : (b.length : Int) = rowBytes n) (h3 : n.tmod 8 = 0) :
    Calls Try.prog 41 #[.int .i64 n, .slice A0 b.length c0] w fun e w' => ∃ g A c, e = .returned (.tuple #[.pointer (some ⟨g, 0, none⟩), .int .i64 0]) ∧ w'.heap[g]? = some (.cells #[.int .i64 n, .slice A b.length c] 64 (0, 0)) ∧ Kd.R (Kd.int .u8) 5 w' w.heap.size (fun k => k < g) (.slice A b.length c) b ∧ w.heap.size ≤ g ∧ Below w.heap.size w w' := by
  have hu := Try.underlying64
  have HR := Aside0.mk hr0
  have HC := Aside0.mk hc0
  have q1 : decide (n < 0) = false := decide_eq_false (by omega)
  have q2 : decide (4096 < n) = false := decide_eq_false (by omega)
  obtain ⟨z, hz⟩ : ∃ z : List Int, z = List.replicate (rowBytes n).toNat 0 := ⟨_, rfl⟩
  have hzl : z.length = b.length := by rw [hz, List.length_replicate]; omega
  have q3 : ((b.length : Int) != (z.length : Int)) = false := by rw [hzl]; simp
  have q4 : (n.tmod 8 != 0) = false := by rw [h3]; rfl
  have HZ := Aside0.mk hz
  have HZL := Aside0.mk hzl
  have HN := Aside0.mk (clampRow_in h0 h1)
  clear hr0 hc0 h0 h1 h2 h3 hz hzl
  go_enter Try.func41, Try.ntmps41
  go_upto_region 4 with (first
    | (go_at_call 51; go_must (refine (bits_New_calls n _).mono ?_); rw [HN.out, ← HZ.out]; rintro e w1 ⟨g, v, rfl, hbk, ho, hg, hb⟩; obtain ⟨A2, c2, rfl⟩ := Kd.R_slice ho; have HB1 := Aside0.mk hb; have BK := Aside0.mk hbk; have HO := Aside0.mk ho; have HG := Aside0.mk hg; clear hb hbk ho hg))
  have hc0 : w1.cell? ⟨g, 0, none⟩ = some (.int .i64 n) := (blk_cell BK.out 0).trans rfl
  have hc1 : w1.cell? ⟨g, 1, none⟩ = some (.slice A2 z.length c2) := (blk_cell BK.out 1).trans rfl
  have hf0 := blk_frozen BK.out 0
  have hf1 := blk_frozen BK.out 1
  go_upto_region 6 with (fail)
  have info5 : (Try.prog.info? 5).map (·.size) = some 1 := by kernel_rfl
  go_wp2_with (first
    | ((with_reducible refine gate_builtin (b := .copy) (xs := #[.tmp 44, .tmp 45]) rfl ?_); go_must (refine Kd.R_copy (0 : Int) (w0 := w) w.heap.size rfl (.tmp 44) (.tmp 45) 28 28 5 rfl Try.underlying28 info5 (.slice A2 z.length c2) z b A0 b.length c0 (fun k => k < g) rfl rfl HO.out (Kd.C_below HR.out HB1.out) HB1.out HB1.out.size ?_); intro w2 ho hb hg; have HO2 := Aside0.mk ho; have HB2 := Aside0.mk hb; have HGR := Aside0.mk hg; clear ho hb hg))
  go_ret2
  have hne : some g ≠ (Value.slice A2 z.length c2).ownBlock := fun e => absurd (HO.out.1 g e.symm) (Nat.lt_irrefl g)
  have e1 : b.take (min b.length z.length) ++ z.drop (min b.length z.length) = b := by rw [HZL.out, Nat.min_self, List.take_length, List.drop_of_length_le (by rw [HZL.out]; exact Nat.le_refl _), List.append_nil]
  refine ⟨g, A2, c2, rfl, ?_, ?_, HG.out, HB2.out⟩
  · have := blk_grown BK.out HGR.out hne
    rwa [HZL.out] at this
  · have := HO2.out
    rw [e1, HZL.out] at this
    exact this
set_option maxHeartbeats 800000 in
set_option maxRecDepth 100000 in
theorem bits_Of_odd (n : Int) (A0 : Option Addr) (c0 : Nat) (b : List Int) (w : World) (hr0 : Kd.C (Kd.int .u8) w A0 b.length b) (hc0 : b.length ≤ c0) (h0 : 0 ≤ n) (h1 : n ≤ 4096) (h2 : (b.length : Int) = rowBytes n) (h3 : n.tmod 8 ≠ 0) (h4 : shr .u8 (rd b ((b.length : Int) - 1)) (n.tmod 8) = 0) :
    Calls Try.prog 41 #[.int .i64 n, .slice A0 b.length c0] w fun e w' => ∃ g A c, e = .returned (.tuple #[.pointer (some ⟨g, 0, none⟩), .int .i64 0]) ∧ w'.heap[g]? = some (.cells #[.int .i64 n, .slice A b.length c] 64 (0, 0)) ∧ Kd.R (Kd.int .u8) 5 w' w.heap.size (fun k => k < g) (.slice A b.length c) b ∧ w.heap.size ≤ g ∧ Below w.heap.size w w' := by
  have hu := Try.underlying64
  have HR := Aside0.mk hr0
  have HC := Aside0.mk hc0
  have q1 : decide (n < 0) = false := decide_eq_false (by omega)
  have q2 : decide (4096 < n) = false := decide_eq_false (by omega)
  obtain ⟨z, hz⟩ : ∃ z : List Int, z = List.replicate (rowBytes n).toNat 0 := ⟨_, rfl⟩
  have hzl : z.length = b.length := by rw [hz, List.length_replicate]; omega
  have q3 : ((b.length : Int) != (z.length : Int)) = false := by rw [hzl]; simp
  have q4 : (n.tmod 8 != 0) = true := bne_iff_ne.2 h3
  have t0 : 0 ≤ n.tmod 8 ∧ n.tmod 8 < 8 := by rw [Int.tmod_eq_emod_of_nonneg h0]; omega
  have hbl : 1 ≤ b.length := by
    have : n.tmod 8 = n % 8 := Int.tmod_eq_emod_of_nonneg h0
    have e : rowBytes n = (n + 7) / 8 := by unfold rowBytes; rw [Int.tdiv_eq_ediv_of_nonneg (by omega)]
    omega
  have hblm : b.length ≤ 512 := by have := (rowBytes_0 h0 h1).2; omega
  obtain ⟨ji, hji⟩ : ∃ ji, ji = (b.length : Int) - 1 := ⟨_, rfl⟩
  rw [← hji] at h4
  obtain ⟨ad, e101, hx⟩ := Kd.at_int hr0 ji (by omega) (by omega)
  cases e101
  have HX := Aside0.mk hx
  obtain ⟨tm, htm⟩ : ∃ tm, tm = n.tmod 8 := ⟨_, rfl⟩
  have htm' : n.tmod 8 = tm := htm.symm
  rw [← htm] at h4 q4 t0
  have e1 : IntKind.i64.wrap ((b.length : Int) - 1) = ji := by rw [i64_w, ← hji]; unfold wrap64; omega
  have e2 : IntKind.u64.wrap tm = tm := by rw [IntKind.wrap_u64]; omega
  have e3 : (rd b ji) / 2 ^ min tm.toNat 8 = 0 := h4
  have e3z := shr_small h4 (show tm ≤ 8 by omega)
  have p1 : (0 ≤ ji) = True := eq_true (by omega)
  have p2 : (ji < (b.length : Int)) = True := eq_true (by omega)
  have p3 : (0 ≤ tm) = True := eq_true (by omega)
  have p4 : decide (0 ≤ tm) = true := decide_eq_true (by omega)
  clear hx hji htm h4 t0 hbl hblm
  have HZ := Aside0.mk hz
  have HZL := Aside0.mk hzl
  have HN := Aside0.mk (clampRow_in h0 h1)
  clear hr0 hc0 h0 h1 h2 h3 hz hzl
  go_enter Try.func41, Try.ntmps41
  go_upto_region 4 with (first
    | (go_at_call 51; go_must (refine (bits_New_calls n _).mono ?_); rw [HN.out, ← HZ.out]; rintro e w1 ⟨g, v, rfl, hbk, ho, hg, hb⟩; obtain ⟨A2, c2, rfl⟩ := Kd.R_slice ho; have HB1 := Aside0.mk hb; have BK := Aside0.mk hbk; have HO := Aside0.mk ho; have HG := Aside0.mk hg; clear hb hbk ho hg))
  have hc0 : w1.cell? ⟨g, 0, none⟩ = some (.int .i64 n) := (blk_cell BK.out 0).trans rfl
  have hc1 : w1.cell? ⟨g, 1, none⟩ = some (.slice A2 z.length c2) := (blk_cell BK.out 1).trans rfl
  have hf0 := blk_frozen BK.out 0
  have hf1 := blk_frozen BK.out 1
  have hx := pw_cell_below HB1.out HX.out
  go_upto_region 6 with (fail)
  have info5 : (Try.prog.info? 5).map (·.size) = some 1 := by kernel_rfl
  go_wp2_with (first
    | ((with_reducible refine gate_builtin (b := .copy) (xs := #[.tmp 44, .tmp 45]) rfl ?_); go_must (refine Kd.R_copy (0 : Int) (w0 := w) w.heap.size rfl (.tmp 44) (.tmp 45) 28 28 5 rfl Try.underlying28 info5 (.slice A2 z.length c2) z b (some ad) b.length c0 (fun k => k < g) rfl rfl HO.out (Kd.C_below HR.out HB1.out) HB1.out HB1.out.size ?_); intro w2 ho hb hg; have HO2 := Aside0.mk ho; have HB2 := Aside0.mk hb; have HGR := Aside0.mk hg; clear ho hb hg))
  go_ret2
  have hne : some g ≠ (Value.slice A2 z.length c2).ownBlock := fun e => absurd (HO.out.1 g e.symm) (Nat.lt_irrefl g)
  have e1 : b.take (min b.length z.length) ++ z.drop (min b.length z.length) = b := by rw [HZL.out, Nat.min_self, List.take_length, List.drop_of_length_le (by rw [HZL.out]; exact Nat.le_refl _), List.append_nil]
  refine ⟨g, A2, c2, rfl, ?_, ?_, HG.out, HB2.out⟩
  · have := blk_grown BK.out HGR.out hne
    rwa [HZL.out] at this
  · have := HO2.out
    rw [e1, HZL.out] at this
    exact this
set_option maxRecDepth 100000 in
theorem bits_Of_arg (n : Int) (A0 : Option Addr) (c0 : Nat) (b : List Int) (w : World) (h : n < 0 ∨ 4096 < n) :
    Calls Try.prog 41 #[.int .i64 n, .slice A0 b.length c0] w fun e w' => e = .returned (.tuple #[.pointer none, .int .i64 1]) ∧ Below w.heap.size w w' := by
  by_cases h0 : n < 0
  · have q1 : decide (n < 0) = true := decide_eq_true h0
    clear h h0
    go_enter Try.func41, Try.ntmps41
    go_wp2
    go_ret2
    exact ⟨rfl, Below.refl _ _⟩
  · have q1 : decide (n < 0) = false := decide_eq_false h0
    have q2 : decide (4096 < n) = true := decide_eq_true (by omega)
    clear h h0
    go_enter Try.func41, Try.ntmps41
    go_wp2
    go_ret2
    exact ⟨rfl, Below.refl _ _⟩
set_option maxHeartbeats 800000 in
set_option maxRecDepth 100000 in
theorem bits_Of_len (n : Int) (A0 : Option Addr) (c0 : Nat) (b : List Int) (w : World) (hr0 : Kd.C (Kd.int .u8) w A0 b.length b) (hc0 : b.length ≤ c0) (h0 : 0 ≤ n) (h1 : n ≤ 4096) (h2 : (b.length : Int) ≠ rowBytes n) :
    Calls Try.prog 41 #[.int .i64 n, .slice A0 b.length c0] w fun e w' => e = .returned (.tuple #[.pointer none, .int .i64 18]) ∧ Below w.heap.size w w' := by
  have hu := Try.underlying64
  have HR := Aside0.mk hr0
  have HC := Aside0.mk hc0
  have q1 : decide (n < 0) = false := decide_eq_false (by omega)
  have q2 : decide (4096 < n) = false := decide_eq_false (by omega)
  obtain ⟨z, hz⟩ : ∃ z : List Int, z = List.replicate (rowBytes n).toNat 0 := ⟨_, rfl⟩
  have q3 : ((b.length : Int) != (z.length : Int)) = true := bne_iff_ne.2 (by rw [hz, List.length_replicate]; have := (rowBytes_0 h0 h1).1; omega)
  have HZ := Aside0.mk hz
  have HN := Aside0.mk (clampRow_in h0 h1)
  clear hr0 hc0 h0 h1 h2 hz
  go_enter Try.func41, Try.ntmps41
  go_upto_region 4 with (first
    | (go_at_call 51; go_must (refine (bits_New_calls n _).mono ?_); rw [HN.out, ← HZ.out]; rintro e w1 ⟨g, v, rfl, hbk, ho, hg, hb⟩; obtain ⟨A2, c2, rfl⟩ := Kd.R_slice ho; have HB1 := Aside0.mk hb; have BK := Aside0.mk hbk; have HO := Aside0.mk ho; have HG := Aside0.mk hg; clear hb hbk ho hg))
  have hc0 : w1.cell? ⟨g, 0, none⟩ = some (.int .i64 n) := (blk_cell BK.out 0).trans rfl
  have hc1 : w1.cell? ⟨g, 1, none⟩ = some (.slice A2 z.length c2) := (blk_cell BK.out 1).trans rfl
  have hf0 := blk_frozen BK.out 0
  have hf1 := blk_frozen BK.out 1
  go_wp2
  go_ret2
  exact ⟨rfl, HB1.out⟩
set_option maxHeartbeats 800000 in
set_option maxRecDepth 100000 in
theorem bits_Of_tail (n : Int) (A0 : Option Addr) (c0 : Nat) (b : List Int) (w : World) (hr0 : Kd.C (Kd.int .u8) w A0 b.length b) (hc0 : b.length ≤ c0) (h0 : 0 ≤ n) (h1 : n ≤ 4096) (h2 : (b.length : Int) = rowBytes n) (h3 : n.tmod 8 ≠ 0) (h4 : shr .u8 (rd b ((b.length : Int) - 1)) (n.tmod 8) ≠ 0) :
    Calls Try.prog 41 #[.int .i64 n, .slice A0 b.length c0] w fun e w' => e = .returned (.tuple #[.pointer none, .int .i64 18]) ∧ Below w.heap.size w w' := by
  have hu := Try.underlying64
  have HR := Aside0.mk hr0
  have HC := Aside0.mk hc0
  have q1 : decide (n < 0) = false := decide_eq_false (by omega)
  have q2 : decide (4096 < n) = false := decide_eq_false (by omega)
  obtain ⟨z, hz⟩ : ∃ z : List Int, z = List.replicate (rowBytes n).toNat 0 := ⟨_, rfl⟩
  have hzl : z.length = b.length := by rw [hz, List.length_replicate]; omega
  have q3 : ((b.length : Int) != (z.length : Int)) = false := by rw [hzl]; simp
  have q4 : (n.tmod 8 != 0) = true := bne_iff_ne.2 h3
  have t0 : 0 ≤ n.tmod 8 ∧ n.tmod 8 < 8 := by rw [Int.tmod_eq_emod_of_nonneg h0]; omega
  have hbl : 1 ≤ b.length := by
    have : n.tmod 8 = n % 8 := Int.tmod_eq_emod_of_nonneg h0
    have e : rowBytes n = (n + 7) / 8 := by unfold rowBytes; rw [Int.tdiv_eq_ediv_of_nonneg (by omega)]
    omega
  have hblm : b.length ≤ 512 := by have := (rowBytes_0 h0 h1).2; omega
  obtain ⟨ji, hji⟩ : ∃ ji, ji = (b.length : Int) - 1 := ⟨_, rfl⟩
  rw [← hji] at h4
  obtain ⟨ad, e101, hx⟩ := Kd.at_int hr0 ji (by omega) (by omega)
  cases e101
  have HX := Aside0.mk hx
  obtain ⟨tm, htm⟩ : ∃ tm, tm = n.tmod 8 := ⟨_, rfl⟩
  have htm' : n.tmod 8 = tm := htm.symm
  rw [← htm] at h4 q4 t0
  have e1 : IntKind.i64.wrap ((b.length : Int) - 1) = ji := by rw [i64_w, ← hji]; unfold wrap64; omega
  have e2 : IntKind.u64.wrap tm = tm := by rw [IntKind.wrap_u64]; omega
  obtain ⟨sv, hsv⟩ : ∃ sv, shr .u8 (rd b ji) tm = sv := ⟨_, rfl⟩
  rw [hsv] at h4
  have e3 : (rd b ji) / 2 ^ min tm.toNat 8 = sv := hsv
  have e3z := shr_small hsv (show tm ≤ 8 by omega)
  have q5 : (sv != 0) = true := bne_iff_ne.2 h4
  have p1 : (0 ≤ ji) = True := eq_true (by omega)
  have p2 : (ji < (b.length : Int)) = True := eq_true (by omega)
  have p3 : (0 ≤ tm) = True := eq_true (by omega)
  have p4 : decide (0 ≤ tm) = true := decide_eq_true (by omega)
  clear hx hji htm h4 hsv t0 hbl hblm
  have HZ := Aside0.mk hz
  have HZL := Aside0.mk hzl
  have HN := Aside0.mk (clampRow_in h0 h1)
  clear hr0 hc0 h0 h1 h2 h3 hz hzl
  go_enter Try.func41, Try.ntmps41
  go_upto_region 4 with (first
    | (go_at_call 51; go_must (refine (bits_New_calls n _).mono ?_); rw [HN.out, ← HZ.out]; rintro e w1 ⟨g, v, rfl, hbk, ho, hg, hb⟩; obtain ⟨A2, c2, rfl⟩ := Kd.R_slice ho; have HB1 := Aside0.mk hb; have BK := Aside0.mk hbk; have HO := Aside0.mk ho; have HG := Aside0.mk hg; clear hb hbk ho hg))
  have hc0 : w1.cell? ⟨g, 0, none⟩ = some (.int .i64 n) := (blk_cell BK.out 0).trans rfl
  have hc1 : w1.cell? ⟨g, 1, none⟩ = some (.slice A2 z.length c2) := (blk_cell BK.out 1).trans rfl
  have hf0 := blk_frozen BK.out 0
  have hf1 := blk_frozen BK.out 1
  have hx := pw_cell_below HB1.out HX.out
  go_wp2
  go_ret2
  exact ⟨rfl, HB1.out⟩
/-- A row of bits of one's own at block g: its bytes lie in an elder block. -/
def OwnRow_ (W : World) (base g : Nat) (n : Int) (b : List Int) : Prop := ∃ A c, W.heap[g]? = some (.cells #[.int .i64 n, .slice A b.length c] 64 (0, 0)) ∧ Kd.R (Kd.int .u8) 5 W base (fun k => k < g) (.slice A b.length c) b ∧ base ≤ g
def setBit (b : List Int) (i : Int) (on : Bool) : List Int := b.set (i.tdiv 8).toNat (if on then Go.bits .or .u8 (rd b (i.tdiv 8)) (shl .u8 1 (i.tmod 8)) else Go.bits .andNot .u8 (rd b (i.tdiv 8)) (shl .u8 1 (i.tmod 8)))
set_option maxHeartbeats 800000 in
set_option maxRecDepth 100000 in
theorem bits_Set_true (g : Nat) (i n : Int) (b : List Int) (w0 w : World) (base : Nat) (hI : OwnRow_ w base g n b) (hB : Below base w0 w) (h0 : 0 ≤ i) (h1 : i < n) (h2 : i.tdiv 8 < (b.length : Int)) (hbl : b.length ≤ 512) :
    Calls Try.prog 53 #[.pointer (some ⟨g, 0, none⟩), .int .i64 i, .bool true] w fun e w' => e = .returned (.int .i64 0) ∧ OwnRow_ w' base g n (setBit b i true) ∧ Below base w0 w' := by
  obtain ⟨A, c, hbk, ho, hg⟩ := hI
  have BK := Aside0.mk hbk
  have HG := Aside0.mk hg
  have HB := Aside0.mk hB
  have hc0 : w.cell? ⟨g, 0, none⟩ = some (.int .i64 n) := (blk_cell BK.out 0).trans rfl
  have hc1 : w.cell? ⟨g, 1, none⟩ = some (.slice A b.length c) := (blk_cell BK.out 1).trans rfl
  have hf0 := blk_frozen BK.out 0
  have hf1 := blk_frozen BK.out 1
  have d1 : decide (i < 0) = false := decide_eq_false (by omega)
  have d2 : decide (n ≤ i) = false := decide_eq_false (by omega)
  obtain ⟨q, hq⟩ : ∃ q, i.tdiv 8 = q := ⟨_, rfl⟩
  obtain ⟨tm, htm⟩ : ∃ tm, i.tmod 8 = tm := ⟨_, rfl⟩
  have hq0 : 0 ≤ q := by rw [← hq, Int.tdiv_eq_ediv_of_nonneg h0]; omega
  have t0 : 0 ≤ tm ∧ tm < 8 := by rw [← htm, Int.tmod_eq_emod_of_nonneg h0]; omega
  rw [hq] at h2
  have hpos : 0 < b.length := by omega
  obtain ⟨ga, ca, hform, gb, _⟩ := Kd.R_form ho hpos
  injection hform with hA hln hcc
  subst hA
  clear hln hcc
  have HNE := Aside0.mk (show g ≠ ga from fun e => absurd (ho.1 ga rfl) (by rw [e]; exact Nat.lt_irrefl _))
  have GB := Aside0.mk gb
  obtain ⟨hx0, hfx⟩ := Kd.R_cell 0 ho q hq0 h2
  have hx : w.cell? ⟨ga, q.toNat, none⟩ = some (.int .u8 (rd b q)) := hx0
  clear hx0
  obtain ⟨sv, hsv⟩ : ∃ sv, shl .u8 1 tm = sv := ⟨_, rfl⟩
  have e6 : (2 : Int) ^ min tm.toNat 8 % 256 = sv := by rw [← hsv]; unfold shl; rw [IntKind.wrap_u8, Int.one_mul]; rfl
  have e2 : IntKind.u64.wrap tm = tm := by rw [IntKind.wrap_u64]; omega
  have e5 : IntKind.i64.wrap q = q := by rw [i64_w]; unfold wrap64; omega
  have p1 : (0 ≤ q) = True := eq_true hq0
  have p2 : (q < (b.length : Int)) = True := eq_true h2
  have p3 : (0 ≤ tm) = True := eq_true (by omega)
  have p4 : decide (0 ≤ tm) = true := decide_eq_true (by omega)
  have HP := Aside0.mk (Kd.R_putg ho q (Go.bits .or .u8 (rd b q) sv))
  have HO := Aside0.mk ho
  have hset : setBit b i true = b.set q.toNat (Go.bits .or .u8 (rd b q) sv) := by unfold setBit; rw [hq, htm, hsv]; rfl
  rw [hset]
  clear hbk ho hg hB gb hset h0 h1 h2 hq0 t0 hpos hbl hsv
  go_enter Try.func53, Try.ntmps53
  go_wp2
  go_ret
  refine ⟨rfl, ⟨some ⟨ga, 0, none⟩, c, ?_, ?_, HG.out⟩, HB.out.setCell GB.out _⟩
  · rw [List.length_set]; exact blk_far BK.out HNE.out _
  · rw [List.length_set]; exact HP.out.1
set_option maxHeartbeats 800000 in
set_option maxRecDepth 100000 in
theorem bits_Set_false (g : Nat) (i n : Int) (b : List Int) (w0 w : World) (base : Nat) (hI : OwnRow_ w base g n b) (hB : Below base w0 w) (h0 : 0 ≤ i) (h1 : i < n) (h2 : i.tdiv 8 < (b.length : Int)) (hbl : b.length ≤ 512) :
    Calls Try.prog 53 #[.pointer (some ⟨g, 0, none⟩), .int .i64 i, .bool false] w fun e w' => e = .returned (.int .i64 0) ∧ OwnRow_ w' base g n (setBit b i false) ∧ Below base w0 w' := by
  obtain ⟨A, c, hbk, ho, hg⟩ := hI
  have BK := Aside0.mk hbk
  have HG := Aside0.mk hg
  have HB := Aside0.mk hB
  have hc0 : w.cell? ⟨g, 0, none⟩ = some (.int .i64 n) := (blk_cell BK.out 0).trans rfl
  have hc1 : w.cell? ⟨g, 1, none⟩ = some (.slice A b.length c) := (blk_cell BK.out 1).trans rfl
  have hf0 := blk_frozen BK.out 0
  have hf1 := blk_frozen BK.out 1
  have d1 : decide (i < 0) = false := decide_eq_false (by omega)
  have d2 : decide (n ≤ i) = false := decide_eq_false (by omega)
  obtain ⟨q, hq⟩ : ∃ q, i.tdiv 8 = q := ⟨_, rfl⟩
  obtain ⟨tm, htm⟩ : ∃ tm, i.tmod 8 = tm := ⟨_, rfl⟩
  have hq0 : 0 ≤ q := by rw [← hq, Int.tdiv_eq_ediv_of_nonneg h0]; omega
  have t0 : 0 ≤ tm ∧ tm < 8 := by rw [← htm, Int.tmod_eq_emod_of_nonneg h0]; omega
  rw [hq] at h2
  have hpos : 0 < b.length := by omega
  obtain ⟨ga, ca, hform, gb, _⟩ := Kd.R_form ho hpos
  injection hform with hA hln hcc
  subst hA
  clear hln hcc
  have HNE := Aside0.mk (show g ≠ ga from fun e => absurd (ho.1 ga rfl) (by rw [e]; exact Nat.lt_irrefl _))
  have GB := Aside0.mk gb
  obtain ⟨hx0, hfx⟩ := Kd.R_cell 0 ho q hq0 h2
  have hx : w.cell? ⟨ga, q.toNat, none⟩ = some (.int .u8 (rd b q)) := hx0
  clear hx0
  obtain ⟨sv, hsv⟩ : ∃ sv, shl .u8 1 tm = sv := ⟨_, rfl⟩
  have e6 : (2 : Int) ^ min tm.toNat 8 % 256 = sv := by rw [← hsv]; unfold shl; rw [IntKind.wrap_u8, Int.one_mul]; rfl
  have e2 : IntKind.u64.wrap tm = tm := by rw [IntKind.wrap_u64]; omega
  have e5 : IntKind.i64.wrap q = q := by rw [i64_w]; unfold wrap64; omega
  have p1 : (0 ≤ q) = True := eq_true hq0
  have p2 : (q < (b.length : Int)) = True := eq_true h2
  have p3 : (0 ≤ tm) = True := eq_true (by omega)
  have p4 : decide (0 ≤ tm) = true := decide_eq_true (by omega)
  have HP := Aside0.mk (Kd.R_putg ho q (Go.bits .andNot .u8 (rd b q) sv))
  have HO := Aside0.mk ho
  have hset : setBit b i false = b.set q.toNat (Go.bits .andNot .u8 (rd b q) sv) := by unfold setBit; rw [hq, htm, hsv]; rfl
  rw [hset]
  clear hbk ho hg hB gb hset h0 h1 h2 hq0 t0 hpos hbl hsv
  go_enter Try.func53, Try.ntmps53
  go_wp2
  go_ret
  refine ⟨rfl, ⟨some ⟨ga, 0, none⟩, c, ?_, ?_, HG.out⟩, HB.out.setCell GB.out _⟩
  · rw [List.length_set]; exact blk_far BK.out HNE.out _
  · rw [List.length_set]; exact HP.out.1
theorem below_through {w w0 wa wb : World} (h1 : Below w.heap.size w wa) (h2 : Below w0.heap.size w0 wa) (h3 : Below w0.heap.size w0 wb) (hs : w.heap.size ≤ w0.heap.size) : Below w.heap.size w wb :=
  ⟨h3.os.trans (h2.os.symm.trans h1.os), h3.tape.trans (h2.tape.symm.trans h1.tape), h3.output.trans (h2.output.symm.trans h1.output), Nat.le_trans hs h3.size, fun k hk => (h3.block k (Nat.lt_of_lt_of_le hk hs)).trans ((h2.block k (Nat.lt_of_lt_of_le hk hs)).symm.trans (h1.block k hk))⟩
/-- A row of one's own, seen by those who only read it: the world of the elder blocks stands below it. -/
theorem OwnRow_.view {W : World} {base g : Nat} {n : Int} {b : List Int} (h : OwnRow_ W base g n b) : ∃ w0, IsS64 w0 W g n b ∧ Below w0.heap.size w0 W ∧ base ≤ w0.heap.size := by
  obtain ⟨A, c, hbk, ho, hg⟩ := h
  have hlt : g < W.heap.size := blk_lt hbk
  have hsz : (W.heap.extract 0 g).size = g := by rw [Array.size_extract]; omega
  have hget : ∀ k, k < g → (W.heap.extract 0 g)[k]? = W.heap[k]? := fun k hk => by
    rw [Array.getElem?_extract]
    simp; omega
  refine ⟨{ W with heap := W.heap.extract 0 g }, ⟨A, c, hbk, ?_, ?_⟩, ⟨rfl, rfl, rfl, ?_, ?_⟩, ?_⟩
  · show (W.heap.extract 0 g).size ≤ g
    omega
  · exact (Kd.R_reads' (Kd.R_move (w1 := { W with heap := W.heap.extract 0 g }) ho (fun k hk => hget k hk))).2.2
  · show (W.heap.extract 0 g).size ≤ W.heap.size
    omega
  · intro k hk
    have hk' : k < g := by have : k < (W.heap.extract 0 g).size := hk; omega
    exact (hget k hk').symm
  · show base ≤ (W.heap.extract 0 g).size
    omega
set_option maxHeartbeats 800000 in
set_option maxRecDepth 100000 in
theorem bits_awake (w : World) : Calls Try.prog 40 #[] w fun e w' => e = .returned (.bool true) ∧ Below w.heap.size w w' := by
  go_enter Try.func40, Try.ntmps40
  go_wp2_with (first
    | (go_at_call 51; go_must (refine (bits_New_calls 10 _).mono ?_); rintro e w1 ⟨g, v, rfl, hbk, ho, hg, hb⟩; obtain ⟨A2, c2, rfl⟩ := Kd.R_slice ho; have HB1 := Aside0.mk hb; have OW := Aside0.mk (show OwnRow_ w1 w.heap.size g 10 [0, 0] from ⟨A2, c2, hbk, ho, hg⟩); clear hb hbk ho hg)
    | (go_at_call 53; go_must (refine (bits_Set_true g 9 10 [0, 0] w _ w.heap.size OW.out HB1.out (by decide) (by decide) (by decide) (by decide)).mono ?_); rintro e w2 ⟨rfl, hI, hB⟩; obtain ⟨w0, hI0, hB0, hs0⟩ := hI.view; have HB2 := Aside0.mk hB; have HI0 := Aside0.mk hI0; have HB0 := Aside0.mk hB0; have HS0 := Aside0.mk hs0; clear hI hB hI0 hB0 hs0)
    | (go_at_call 44; go_must (refine (bits_Row_Get.calls g 10 (setBit [0, 0] 9 true) 9 true 10 w0 _ HI0.out HB0.out (by decide +kernel)).mono ?_); rintro e w3 ⟨rfl, hI, hB, _⟩; have HI3 := Aside0.mk hI; have HB3 := Aside0.mk hB; clear hI hB)
    | (go_at_call 43; go_must (refine (bits_Row_Len.calls g 10 (setBit [0, 0] 9 true) 10 10 w0 _ HI3.out HB3.out rfl).mono ?_); rintro e w4 ⟨rfl, hI, hB, _⟩; have HB4 := Aside0.mk hB; clear hI hB))
  go_ret
  exact ⟨by simp, below_through HB2.out HB0.out HB4.out HS0.out⟩
/-- These bytes are those of a row of n bits. -/
def OfOk (n : Int) (b : List Int) : Prop := 0 ≤ n ∧ n ≤ 4096 ∧ (b.length : Int) = rowBytes n ∧ (n.tmod 8 = 0 ∨ shr .u8 (rd b ((b.length : Int) - 1)) (n.tmod 8) = 0)
theorem bits_Of_ok (n : Int) (A0 : Option Addr) (c0 : Nat) (b : List Int) (w : World) (hr0 : Kd.C (Kd.int .u8) w A0 b.length b) (hc0 : b.length ≤ c0) (h : OfOk n b) :
    Calls Try.prog 41 #[.int .i64 n, .slice A0 b.length c0] w fun e w' => ∃ g, e = .returned (.tuple #[.pointer (some ⟨g, 0, none⟩), .int .i64 0]) ∧ OwnRow_ w' w.heap.size g n b ∧ Below w.heap.size w w' := by
  by_cases h3 : n.tmod 8 = 0
  · refine (bits_Of_even n A0 c0 b w hr0 hc0 h.1 h.2.1 h.2.2.1 h3).mono ?_
    rintro e w' ⟨g, A, c, he, hbk, ho, hg, hb⟩
    exact ⟨g, he, ⟨A, c, hbk, ho, hg⟩, hb⟩
  · refine (bits_Of_odd n A0 c0 b w hr0 hc0 h.1 h.2.1 h.2.2.1 h3 (h.2.2.2.resolve_left h3)).mono ?_
    rintro e w' ⟨g, A, c, he, hbk, ho, hg, hb⟩
    exact ⟨g, he, ⟨A, c, hbk, ho, hg⟩, hb⟩
/-- What Of answers where the bytes are no row's. -/
def ofErr (n : Int) : Int := if n < 0 ∨ 4096 < n then 1 else 18
theorem bits_Of_bad (n : Int) (A0 : Option Addr) (c0 : Nat) (b : List Int) (w : World) (hr0 : Kd.C (Kd.int .u8) w A0 b.length b) (hc0 : b.length ≤ c0) (h : ¬ OfOk n b) :
    Calls Try.prog 41 #[.int .i64 n, .slice A0 b.length c0] w fun e w' => e = .returned (.tuple #[.pointer none, .int .i64 (ofErr n)]) ∧ Below w.heap.size w w' := by
  by_cases h0 : n < 0 ∨ 4096 < n
  · rw [show ofErr n = 1 from if_pos h0]; exact bits_Of_arg n A0 c0 b w h0
  · rw [show ofErr n = 18 from if_neg h0]
    by_cases h2 : (b.length : Int) = rowBytes n
    · have h3 : ¬ (n.tmod 8 = 0 ∨ shr .u8 (rd b ((b.length : Int) - 1)) (n.tmod 8) = 0) := fun h3 => h ⟨by omega, by omega, h2, h3⟩
      exact bits_Of_tail n A0 c0 b w hr0 hc0 (by omega) (by omega) h2 (fun x => h3 (.inl x)) (fun x => h3 (.inr x))
    · exact bits_Of_len n A0 c0 b w hr0 hc0 (by omega) (by omega) h2
/-! ### ashlarlaw01_BitsRun: function 8 -/
mutual
def ashlarlaw01_BitsRun.j1 : Nat → Int → Int → Int → List Int → Option (Bool × Int)
  | 0, _, _, _, _ => none
  | k + 1, x9, x10, x1000, x1001 => (bits_Row_Len.f x1000 x1001).bind fun bt112 => (ashlarlaw01_BitsRun.l1 k x9 x10 bt112.1 0 bt112.2 x1001)
def ashlarlaw01_BitsRun.l1 : Nat → Int → Int → Int → Int → Int → List Int → Option (Bool × Int)
  | 0, _, _, _, _, _, _ => none
  | k + 1, x9, x10, x61, x62, x1000, x1001 => if x62 < x61 then (if x10 ≥ 0 then (ashlarlaw01_BitsRun.j3 k x9 x10 x62 x61 x62 (decide (x62 ≥ x10)) x1000 x1001) else (ashlarlaw01_BitsRun.j3 k x9 x10 x62 x61 x62 false x1000 x1001)) else (some (true, x1000))
def ashlarlaw01_BitsRun.j3 : Nat → Int → Int → Int → Int → Int → Bool → Int → List Int → Option (Bool × Int)
  | 0, _, _, _, _, _, _, _, _ => none
  | k + 1, x9, x10, x12, x61, x62, x71, x1000, x1001 => if x71 = true then (some (true, x1000)) else (ashlarlaw01_BitsRun.l2 k x9 x10 x12 0 x61 x62 x1000 x1001)
def ashlarlaw01_BitsRun.l2 : Nat → Int → Int → Int → Int → Int → Int → Int → List Int → Option (Bool × Int)
  | 0, _, _, _, _, _, _, _, _ => none
  | k + 1, x9, x10, x12, x13, x61, x62, x1000, x1001 => if x13 < x9 then ((bits_Row_Len.f x1000 x1001).bind fun bt114 => (if (wrap64 (x12 + x13)) < bt114.1 then ((bits_Row_Get.f bt114.2 x1001 (wrap64 (x12 + x13))).bind fun bt116 => (if bt116.1 = true then (if x13 = x9 then (some (false, bt116.2)) else (ashlarlaw01_BitsRun.l1 k x9 x10 x61 (wrap64 (x62 + 1)) bt116.2 x1001)) else (ashlarlaw01_BitsRun.l2 k x9 x10 x12 (wrap64 (x13 + 1)) x61 x62 bt116.2 x1001))) else (if x13 = x9 then (some (false, bt114.2)) else (ashlarlaw01_BitsRun.l1 k x9 x10 x61 (wrap64 (x62 + 1)) bt114.2 x1001)))) else (if x13 = x9 then (some (false, x1000)) else (ashlarlaw01_BitsRun.l1 k x9 x10 x61 (wrap64 (x62 + 1)) x1000 x1001))
def ashlarlaw01_BitsRun.l0 : Nat → Int → Int → Int → Int → Int → List Int → Option (Bool × Int)
  | 0, _, _, _, _, _, _ => none
  | k + 1, x9, x10, x42, x43, x1000, x1001 => if x43 < x42 then ((bits_Row_Len.f x1000 x1001).bind fun bt108 => (if (wrap64 (x10 + x43)) ≥ bt108.1 then (some (false, bt108.2)) else ((bits_Row_Get.f bt108.2 x1001 (wrap64 (x10 + x43))).bind fun bt110 => (if bt110.1 = true then (some (false, bt110.2)) else (ashlarlaw01_BitsRun.l0 k x9 x10 x42 (wrap64 (x43 + 1)) bt110.2 x1001))))) else (ashlarlaw01_BitsRun.j1 k x9 x10 x1000 x1001)
end
def ashlarlaw01_BitsRun.f (k : Nat) (s0_0 : Int) (s0_1 : List Int) (a1 : Int) (a2 : Int) : Option (Bool × Int) := (bits_Row_Run.f k s0_0 s0_1 (wrap64 (1 + (wrap64 (Int.tmod a2 40))))).bind fun bt106 => (if bt106.1 ≥ 0 then (ashlarlaw01_BitsRun.l0 k (wrap64 (1 + (wrap64 (Int.tmod a2 40)))) bt106.1 (wrap64 (1 + (wrap64 (Int.tmod a2 40)))) 0 bt106.2 s0_1) else (ashlarlaw01_BitsRun.j1 k (wrap64 (1 + (wrap64 (Int.tmod a2 40)))) bt106.1 bt106.2 s0_1))
theorem ashlarlaw01_BitsRun.mono_l : ∀ k, (∀ y0 y1 y2 y3, LeO (ashlarlaw01_BitsRun.j1 k y0 y1 y2 y3) (ashlarlaw01_BitsRun.j1 (k + 1) y0 y1 y2 y3)) ∧ (∀ y0 y1 y2 y3 y4 y5, LeO (ashlarlaw01_BitsRun.l1 k y0 y1 y2 y3 y4 y5) (ashlarlaw01_BitsRun.l1 (k + 1) y0 y1 y2 y3 y4 y5)) ∧ (∀ y0 y1 y2 y3 y4 y5 y6 y7, LeO (ashlarlaw01_BitsRun.j3 k y0 y1 y2 y3 y4 y5 y6 y7) (ashlarlaw01_BitsRun.j3 (k + 1) y0 y1 y2 y3 y4 y5 y6 y7)) ∧ (∀ y0 y1 y2 y3 y4 y5 y6 y7, LeO (ashlarlaw01_BitsRun.l2 k y0 y1 y2 y3 y4 y5 y6 y7) (ashlarlaw01_BitsRun.l2 (k + 1) y0 y1 y2 y3 y4 y5 y6 y7)) ∧ (∀ y0 y1 y2 y3 y4 y5, LeO (ashlarlaw01_BitsRun.l0 k y0 y1 y2 y3 y4 y5) (ashlarlaw01_BitsRun.l0 (k + 1) y0 y1 y2 y3 y4 y5))
  | 0 => ⟨fun _ _ _ _ r h => by simp [ashlarlaw01_BitsRun.j1] at h, fun _ _ _ _ _ _ r h => by simp [ashlarlaw01_BitsRun.l1] at h, fun _ _ _ _ _ _ _ _ r h => by simp [ashlarlaw01_BitsRun.j3] at h, fun _ _ _ _ _ _ _ _ r h => by simp [ashlarlaw01_BitsRun.l2] at h, fun _ _ _ _ _ _ r h => by simp [ashlarlaw01_BitsRun.l0] at h⟩
  | k + 1 => by
    obtain ⟨ih0, ih1, ih2, ih3, ih4⟩ := ashlarlaw01_BitsRun.mono_l k
    refine ⟨?_, ?_, ?_, ?_, ?_⟩
    · intro y0 y1 y2 y3
      unfold ashlarlaw01_BitsRun.j1
      repeat' first
      | (with_reducible exact ih0 _ _ _ _)
      | (with_reducible exact ih1 _ _ _ _ _ _)
      | (with_reducible exact ih2 _ _ _ _ _ _ _ _)
      | (with_reducible exact ih3 _ _ _ _ _ _ _ _)
      | (with_reducible exact ih4 _ _ _ _ _ _)
      | (with_reducible exact bits_Row_Run.mono _ _ _ _)
      | (with_reducible exact LeO.refl _)
      | (with_reducible exact LeO.none _)
      | (with_reducible refine LeO.ite ?_ ?_)
      | (with_reducible refine LeO.bind ?_ (fun _ => ?_))
      | exact ih0 _ _ _ _
      | exact ih1 _ _ _ _ _ _
      | exact ih2 _ _ _ _ _ _ _ _
      | exact ih3 _ _ _ _ _ _ _ _
      | exact ih4 _ _ _ _ _ _
      | exact bits_Row_Run.mono _ _ _ _
      | exact LeO.none _
      | refine LeO.ite ?_ ?_
      | refine LeO.bind ?_ (fun _ => ?_)
    · intro y0 y1 y2 y3 y4 y5
      unfold ashlarlaw01_BitsRun.l1
      repeat' first
      | (with_reducible exact ih0 _ _ _ _)
      | (with_reducible exact ih1 _ _ _ _ _ _)
      | (with_reducible exact ih2 _ _ _ _ _ _ _ _)
      | (with_reducible exact ih3 _ _ _ _ _ _ _ _)
      | (with_reducible exact ih4 _ _ _ _ _ _)
      | (with_reducible exact bits_Row_Run.mono _ _ _ _)
      | (with_reducible exact LeO.refl _)
      | (with_reducible exact LeO.none _)
      | (with_reducible refine LeO.ite ?_ ?_)
      | (with_reducible refine LeO.bind ?_ (fun _ => ?_))
      | exact ih0 _ _ _ _
      | exact ih1 _ _ _ _ _ _
      | exact ih2 _ _ _ _ _ _ _ _
      | exact ih3 _ _ _ _ _ _ _ _
      | exact ih4 _ _ _ _ _ _
      | exact bits_Row_Run.mono _ _ _ _
      | exact LeO.none _
      | refine LeO.ite ?_ ?_
      | refine LeO.bind ?_ (fun _ => ?_)
    · intro y0 y1 y2 y3 y4 y5 y6 y7
      unfold ashlarlaw01_BitsRun.j3
      repeat' first
      | (with_reducible exact ih0 _ _ _ _)
      | (with_reducible exact ih1 _ _ _ _ _ _)
      | (with_reducible exact ih2 _ _ _ _ _ _ _ _)
      | (with_reducible exact ih3 _ _ _ _ _ _ _ _)
      | (with_reducible exact ih4 _ _ _ _ _ _)
      | (with_reducible exact bits_Row_Run.mono _ _ _ _)
      | (with_reducible exact LeO.refl _)
      | (with_reducible exact LeO.none _)
      | (with_reducible refine LeO.ite ?_ ?_)
      | (with_reducible refine LeO.bind ?_ (fun _ => ?_))
      | exact ih0 _ _ _ _
      | exact ih1 _ _ _ _ _ _
      | exact ih2 _ _ _ _ _ _ _ _
      | exact ih3 _ _ _ _ _ _ _ _
      | exact ih4 _ _ _ _ _ _
      | exact bits_Row_Run.mono _ _ _ _
      | exact LeO.none _
      | refine LeO.ite ?_ ?_
      | refine LeO.bind ?_ (fun _ => ?_)
    · intro y0 y1 y2 y3 y4 y5 y6 y7
      unfold ashlarlaw01_BitsRun.l2
      repeat' first
      | (with_reducible exact ih0 _ _ _ _)
      | (with_reducible exact ih1 _ _ _ _ _ _)
      | (with_reducible exact ih2 _ _ _ _ _ _ _ _)
      | (with_reducible exact ih3 _ _ _ _ _ _ _ _)
      | (with_reducible exact ih4 _ _ _ _ _ _)
      | (with_reducible exact bits_Row_Run.mono _ _ _ _)
      | (with_reducible exact LeO.refl _)
      | (with_reducible exact LeO.none _)
      | (with_reducible refine LeO.ite ?_ ?_)
      | (with_reducible refine LeO.bind ?_ (fun _ => ?_))
      | exact ih0 _ _ _ _
      | exact ih1 _ _ _ _ _ _
      | exact ih2 _ _ _ _ _ _ _ _
      | exact ih3 _ _ _ _ _ _ _ _
      | exact ih4 _ _ _ _ _ _
      | exact bits_Row_Run.mono _ _ _ _
      | exact LeO.none _
      | refine LeO.ite ?_ ?_
      | refine LeO.bind ?_ (fun _ => ?_)
    · intro y0 y1 y2 y3 y4 y5
      unfold ashlarlaw01_BitsRun.l0
      repeat' first
      | (with_reducible exact ih0 _ _ _ _)
      | (with_reducible exact ih1 _ _ _ _ _ _)
      | (with_reducible exact ih2 _ _ _ _ _ _ _ _)
      | (with_reducible exact ih3 _ _ _ _ _ _ _ _)
      | (with_reducible exact ih4 _ _ _ _ _ _)
      | (with_reducible exact bits_Row_Run.mono _ _ _ _)
      | (with_reducible exact LeO.refl _)
      | (with_reducible exact LeO.none _)
      | (with_reducible refine LeO.ite ?_ ?_)
      | (with_reducible refine LeO.bind ?_ (fun _ => ?_))
      | exact ih0 _ _ _ _
      | exact ih1 _ _ _ _ _ _
      | exact ih2 _ _ _ _ _ _ _ _
      | exact ih3 _ _ _ _ _ _ _ _
      | exact ih4 _ _ _ _ _ _
      | exact bits_Row_Run.mono _ _ _ _
      | exact LeO.none _
      | refine LeO.ite ?_ ?_
      | refine LeO.bind ?_ (fun _ => ?_)
theorem ashlarlaw01_BitsRun.mono : ∀ a0 a1 a2 a3 k, LeO (ashlarlaw01_BitsRun.f k a0 a1 a2 a3) (ashlarlaw01_BitsRun.f (k + 1) a0 a1 a2 a3) := by
  intro a0 a1 a2 a3 k
  obtain ⟨ih0, ih1, ih2, ih3, ih4⟩ := ashlarlaw01_BitsRun.mono_l k
  unfold ashlarlaw01_BitsRun.f
  repeat' first
      | (with_reducible exact ih0 _ _ _ _)
      | (with_reducible exact ih1 _ _ _ _ _ _)
      | (with_reducible exact ih2 _ _ _ _ _ _ _ _)
      | (with_reducible exact ih3 _ _ _ _ _ _ _ _)
      | (with_reducible exact ih4 _ _ _ _ _ _)
      | (with_reducible exact bits_Row_Run.mono _ _ _ _)
      | (with_reducible exact LeO.refl _)
      | (with_reducible exact LeO.none _)
      | (with_reducible refine LeO.ite ?_ ?_)
      | (with_reducible refine LeO.bind ?_ (fun _ => ?_))
      | exact ih0 _ _ _ _
      | exact ih1 _ _ _ _ _ _
      | exact ih2 _ _ _ _ _ _ _ _
      | exact ih3 _ _ _ _ _ _ _ _
      | exact ih4 _ _ _ _ _ _
      | exact bits_Row_Run.mono _ _ _ _
      | exact LeO.none _
      | refine LeO.ite ?_ ?_
      | refine LeO.bind ?_ (fun _ => ?_)
set_option maxHeartbeats 8000000 in
set_option maxRecDepth 100000 in
set_option maxHeartbeats 800000 in
set_option maxRecDepth 100000 in
theorem ashlarlaw01_BitsRun.long (A0 : Option Addr) (c0 : Nat) (n : Int) (b : List Int) (a2 : Int) (w : World) (h : 1000 < b.length) : Calls Try.prog 8 #[.int .i64 n, .slice A0 b.length c0, .int .u8 a2] w fun e w' => e = .returned (.bool true) ∧ Below w.heap.size w w' := by
  have q1 : decide (1000 < b.length) = true := decide_eq_true h
  have q2 : decide ((1000 : Int) < (b.length : Int)) = true := decide_eq_true (by omega)
  clear h
  have HB := Aside0.mk (Below.refl w.heap.size w)
  go_enter Try.func8, Try.ntmps8
  go_wp2_with (first
    | (go_at_call 40; go_must (refine (bits_awake _).mono ?_); rintro e w1 ⟨rfl, hb⟩; have HB1 := Aside0.mk (below_step HB.out hb); clear HB hb; have HB := HB1; clear HB1))
  go_ret
  exact ⟨by simp, HB.out⟩
set_option maxHeartbeats 800000 in
set_option maxRecDepth 100000 in
theorem ashlarlaw01_BitsRun.bad (A0 : Option Addr) (c0 : Nat) (n : Int) (b : List Int) (a2 : Int) (w : World) (hr0 : Kd.C (Kd.int .u8) w A0 b.length b) (hc0 : b.length ≤ c0) (h : b.length ≤ 1000) (hof : ¬ OfOk n b) : Calls Try.prog 8 #[.int .i64 n, .slice A0 b.length c0, .int .u8 a2] w fun e w' => e = .returned (.bool true) ∧ Below w.heap.size w w' := by
  have q1 : decide (1000 < b.length) = false := decide_eq_false (by omega)
  have q2 : decide ((1000 : Int) < (b.length : Int)) = false := decide_eq_false (by omega)
  obtain ⟨x, hx⟩ : ∃ x, x = ofErr n := ⟨_, rfl⟩
  have q3 : (x != 0) = true := by rw [hx]; unfold ofErr; by_cases c : n < 0 ∨ 4096 < n <;> simp [c]
  have HX := Aside0.mk hx
  have HR := Aside0.mk hr0
  have HC := Aside0.mk hc0
  have HOF := Aside0.mk hof
  clear h hx hr0 hc0 hof
  go_enter Try.func8, Try.ntmps8
  go_wp2_with (first
    | (go_at_call 40; go_must (refine (bits_awake _).mono ?_); rintro e w1 ⟨rfl, hb⟩; have HB1 := Aside0.mk hb; clear hb)
    | (go_at_call 41; go_must (refine (bits_Of_bad n _ _ b _ (Kd.C_below HR.out HB1.out) HC.out HOF.out).mono ?_); rw [← HX.out]; rintro e w2 ⟨rfl, hb⟩; have HB2 := Aside0.mk (below_step HB1.out hb); clear hb))
  go_ret
  exact ⟨by simp, HB2.out⟩
set_option maxHeartbeats 8000000 in
set_option maxRecDepth 100000 in
theorem ashlarlaw01_BitsRun.mid (k : Nat) (A0 : Option Addr) (c0 : Nat) (s0_0 : Int) (s0_1 : List Int) (a1 : Int) (a2 : Int) (r1 : Bool) (r2 : Int) (wi : World) (hr0 : Kd.C (Kd.int .u8) wi A0 s0_1.length s0_1) (hc0 : s0_1.length ≤ c0) (hl : s0_1.length ≤ 1000) (hof : OfOk s0_0 s0_1) (h : ashlarlaw01_BitsRun.f k s0_0 s0_1 a1 a2 = some (r1, r2)) :
    Calls Try.prog 8 #[.int .i64 s0_0, .slice A0 s0_1.length c0, .int .u8 a2] wi fun e w' => e = .returned (.bool r1) ∧ Below wi.heap.size wi w' := by
  have HH := Aside0.mk h
  have HR := Aside0.mk hr0
  have HC := Aside0.mk hc0
  have HOF := Aside0.mk hof
  have qq1 : decide (1000 < s0_1.length) = false := decide_eq_false (by omega)
  have qq2 : decide ((1000 : Int) < (s0_1.length : Int)) = false := decide_eq_false (by omega)
  clear h hr0 hc0 hof hl
  go_enter Try.func8, Try.ntmps8
  go_upto_region 6 with (first
    | (go_at_call 40; go_must (refine (bits_awake _).mono ?_); rintro e w1 ⟨rfl, hb⟩; have HB1 := Aside0.mk hb; clear hb)
    | (go_at_call 41; go_must (refine (bits_Of_ok s0_0 _ _ s0_1 _ (Kd.C_below HR.out HB1.out) HC.out HOF.out).mono ?_); rintro e w ⟨g, rfl, ho, hb⟩; have HBI := Aside0.mk (below_step HB1.out hb); have OW := Aside0.mk ho; clear hb ho))
  obtain ⟨w0, hI, hB, hS⟩ := OW.out.view
  have HBV := Aside0.mk hB
  have HSV := Aside0.mk (Nat.le_trans HB1.out.size hS)
  have h := HH.out
  clear HH HR HC HOF qq1 qq2 OW hS HB1
  have HI0 := Aside0.mk hI
  have HK := Aside0.mk (KeepBut.refl w g none)
  have HL := Aside0.mk hB.size
  clear hI
  have HW0 := Aside0.mk hB.size
  have HB := Aside0.mk hB
  clear hB
  have H : ((bits_Row_Run.f k s0_0 s0_1 (wrap64 (1 + (wrap64 (Int.tmod a2 40))))).bind fun bt106 => (if bt106.1 ≥ 0 then (ashlarlaw01_BitsRun.l0 k (wrap64 (1 + (wrap64 (Int.tmod a2 40)))) bt106.1 (wrap64 (1 + (wrap64 (Int.tmod a2 40)))) 0 bt106.2 s0_1) else (ashlarlaw01_BitsRun.j1 k (wrap64 (1 + (wrap64 (Int.tmod a2 40)))) bt106.1 bt106.2 s0_1))) = some (r1, r2) := h
  clear h
  replace H := Option.bind_eq_some_iff.mp H
  obtain ⟨⟨t106, t107⟩, A40, H⟩ := H
  replace H : (if t106 ≥ 0 then (ashlarlaw01_BitsRun.l0 k (wrap64 (1 + (wrap64 (Int.tmod a2 40)))) t106 (wrap64 (1 + (wrap64 (Int.tmod a2 40)))) 0 t107 s0_1) else (ashlarlaw01_BitsRun.j1 k (wrap64 (1 + (wrap64 (Int.tmod a2 40)))) t106 t107 s0_1)) = some (r1, r2) := H
  have A4 := Aside0.mk A40
  clear A40
  have HC5 := Aside0.mk H
  clear H
  skip
  go_upto_if 41 with (first | ((with_reducible refine gate_callee (f := 42) rfl ?_); refine goesL_ (some 39) rfl rfl Try.func42 (by kernel_rfl) rfl #[.pointer (some ⟨g, 0, none⟩), .int .i64 (wrap64 (1 + (wrap64 (Int.tmod a2 40))))] rfl (by (try simp only [List.map_toArray, List.map_cons, List.map_nil]); first | done | rfl | (simp only [List.length_drop, List.length_take]; rfl)) ?_; (with_reducible refine (bits_Row_Run.calls k g s0_0 s0_1 (wrap64 (1 + (wrap64 (Int.tmod a2 40)))) t106 t107 w0 _ ?side1 ?side2 A4.out).mono ?_); (case side1 => repeat (first | (with_reducible first | exact HI0.out | apply IsS64.alloc | apply IsS64.drewN | apply IsS64.drew | apply IsS64.set_0) | exact HI0.out)); (case side2 => repeat (first | (with_reducible first | exact HB.out | apply below_alloc | apply pw_below_drewN | apply below_drew1 | refine below_set ?_ (IsS64.ge HI0.out)) | exact HB.out)); rintro e w6 ⟨rfl, hi, hb, hk⟩; refine ⟨_, rfl, ?_⟩; have n0_ := Aside0.mk (KeepBut.trans (by repeat (first | (with_reducible first | exact HK.out | apply KeepBut.set_ | apply keep_drewN | apply keep_drew | apply keep_alloc) | exact HK.out)) hk (.inl rfl)); have n1_ := Aside0.mk (hb); have n2_ := Aside0.mk (hi); clear HK; clear HB; clear HI0; have HK := n0_; have HB := n1_; have HI0 := n2_; clear n0_ n1_ n2_; (try clear hb); (try clear hb2); (try clear hk); (try clear hi)))
  (try simp only [Act.put, List.setIfInBounds_toArray, List.set_cons_zero, List.set_cons_succ])
  go_cut [] (fun wc => ∃ (kq : Nat) (x1000_4 : Int), Aside0 (ashlarlaw01_BitsRun.j1 kq (wrap64 (1 + (wrap64 (Int.tmod a2 40)))) t106 x1000_4 s0_1 = some (r1, r2)) ∧ Aside0 (kq ≤ k) ∧ Aside0 (IsS64 w0 wc g x1000_4 s0_1) ∧ Aside0 (KeepBut w wc g none) ∧ Aside0 (Below w0.heap.size w0 wc))
  case first =>
    have H := HC5.out
    clear HC5
    by_cases c7 : t106 ≥ 0
    · rw [if_pos c7] at H
      have c7b0 : decide (0 ≤ t106) = true := decide_eq_true c7
      clear c7
      (first | rw [c7b0] | (simp only [i64_w, i32_w]; rw [c7b0]) | skip)
      have H' := Aside0.mk H
      clear H
      go_wp2
      go_loopg [43] k (fun kq v43 w' => ∃ (x43_1 : Int) (x1000_1 : Int), v43 = .int .i64 x43_1 ∧ Aside0 (ashlarlaw01_BitsRun.l0 kq (wrap64 (1 + (wrap64 (Int.tmod a2 40)))) t106 (wrap64 (1 + (wrap64 (Int.tmod a2 40)))) x43_1 x1000_1 s0_1 = some (r1, r2)) ∧ Aside0 (kq ≤ k) ∧ Aside0 (IsS64 w0 w' g x1000_1 s0_1) ∧ Aside0 (KeepBut w w' g none) ∧ Aside0 (Below w0.heap.size w0 w'))
      case atStart => exact ⟨(0), (t107), (by first | rfl | (simp; done) | (simp [*]; done)), H', ⟨Nat.le_refl _⟩, ⟨by repeat (first | (with_reducible first | exact HI0.out | apply IsS64.alloc | apply IsS64.drewN | apply IsS64.drew | apply IsS64.set_0) | exact HI0.out)⟩, ⟨by repeat (first | (with_reducible first | exact HK.out | apply KeepBut.set_ | apply keep_drewN | apply keep_drew | apply keep_alloc) | exact HK.out)⟩, ⟨by repeat (first | (with_reducible first | exact HB.out | apply below_alloc | apply pw_below_drewN | apply below_drew1 | refine below_set ?_ (IsS64.ge HI0.out)) | exact HB.out)⟩⟩
      case round =>
        clear H'
        try clear p2
        try clear c4
        try clear p6
        try clear c7
        try clear c7b0
        obtain ⟨x43_1, x1000_1, rfl, HA, HK1, HI0, HK, HB⟩ := hrel
        cases gk with
        | zero => exact absurd HA.out (by simp [ashlarlaw01_BitsRun.l0])
        | succ k1 =>
          have H := HA.out
          clear HA
          simp only [ashlarlaw01_BitsRun.l0] at H
          by_cases c8 : x43_1 < (wrap64 (1 + (wrap64 (Int.tmod a2 40))))
          · rw [if_pos c8] at H
            have c8b0 : decide (x43_1 < (wrap64 (1 + (wrap64 (Int.tmod a2 40))))) = true := decide_eq_true c8
            clear c8
            replace H := Option.bind_eq_some_iff.mp H
            obtain ⟨⟨t108, t109⟩, A90, H⟩ := H
            replace H : (if (wrap64 (t106 + x43_1)) ≥ t108 then (some (false, t109)) else ((bits_Row_Get.f t109 s0_1 (wrap64 (t106 + x43_1))).bind fun bt110 => (if bt110.1 = true then (some (false, bt110.2)) else (ashlarlaw01_BitsRun.l0 k1 (wrap64 (1 + (wrap64 (Int.tmod a2 40)))) t106 (wrap64 (1 + (wrap64 (Int.tmod a2 40)))) (wrap64 (x43_1 + 1)) bt110.2 s0_1)))) = some (r1, r2) := H
            have A9 := Aside0.mk A90
            clear A90
            by_cases c10 : (wrap64 (t106 + x43_1)) ≥ t108
            · rw [if_pos c10] at H
              have c10b0 : decide (t108 ≤ (wrap64 (t106 + x43_1))) = true := decide_eq_true c10
              clear c10
              simp only [Option.some.injEq, Prod.mk.injEq] at H
              obtain ⟨rfl, rfl⟩ := H
              go_wp2_with (first | ((with_reducible refine gate_callee (f := 43) rfl ?_); refine goesL_ (some 50) rfl rfl Try.func43 (by kernel_rfl) rfl #[.pointer (some ⟨g, 0, none⟩)] rfl (by (try simp only [List.map_toArray, List.map_cons, List.map_nil]); first | done | rfl | (simp only [List.length_drop, List.length_take]; rfl)) ?_; (with_reducible refine (bits_Row_Len.calls g x1000_1 s0_1 t108 t109 w0 _ ?side1 ?side2 A9.out).mono ?_); (case side1 => repeat (first | (with_reducible first | exact HI0.out | apply IsS64.alloc | apply IsS64.drewN | apply IsS64.drew | apply IsS64.set_0) | exact HI0.out)); (case side2 => repeat (first | (with_reducible first | exact HB.out | apply below_alloc | apply pw_below_drewN | apply below_drew1 | refine below_set ?_ (IsS64.ge HI0.out)) | exact HB.out)); rintro e w11 ⟨rfl, hi, hb, hk⟩; refine ⟨_, rfl, ?_⟩; have n0_ := Aside0.mk (KeepBut.trans (by repeat (first | (with_reducible first | exact HK.out | apply KeepBut.set_ | apply keep_drewN | apply keep_drew | apply keep_alloc) | exact HK.out)) hk (.inl rfl)); have n1_ := Aside0.mk (hb); have n2_ := Aside0.mk (hi); clear HK; clear HB; clear HI0; have HK := n0_; have HB := n1_; have HI0 := n2_; clear n0_ n1_ n2_; (try clear hb); (try clear hb2); (try clear hk); (try clear hi)))
              go_ret
              exact ⟨by first | rfl | (simp [errW_none, errW_some] <;> rfl) | (simp [*, errW_none, errW_some] <;> rfl), below_through HBI.out HBV.out (by repeat (first | (with_reducible first | exact HB.out | apply below_alloc | apply pw_below_drewN | apply below_drew1 | refine below_set ?_ (IsS64.ge HI0.out)) | exact HB.out)) HSV.out⟩
            · rw [if_neg c10] at H
              have c10b0 : decide (t108 ≤ (wrap64 (t106 + x43_1))) = false := decide_eq_false c10
              clear c10
              replace H := Option.bind_eq_some_iff.mp H
              obtain ⟨⟨t110, t111⟩, A120, H⟩ := H
              replace H : (if t110 = true then (some (false, t111)) else (ashlarlaw01_BitsRun.l0 k1 (wrap64 (1 + (wrap64 (Int.tmod a2 40)))) t106 (wrap64 (1 + (wrap64 (Int.tmod a2 40)))) (wrap64 (x43_1 + 1)) t111 s0_1)) = some (r1, r2) := H
              have A12 := Aside0.mk A120
              clear A120
              by_cases c13 : t110 = true
              · subst c13
                have H1 : (some (false, t111)) = some (r1, r2) := by rw [if_pos rfl] at H; exact H
                clear H
                have H := H1
                clear H1
                simp only [Option.some.injEq, Prod.mk.injEq] at H
                obtain ⟨rfl, rfl⟩ := H
                go_wp2_with (first | ((with_reducible refine gate_callee (f := 43) rfl ?_); refine goesL_ (some 50) rfl rfl Try.func43 (by kernel_rfl) rfl #[.pointer (some ⟨g, 0, none⟩)] rfl (by (try simp only [List.map_toArray, List.map_cons, List.map_nil]); first | done | rfl | (simp only [List.length_drop, List.length_take]; rfl)) ?_; (with_reducible refine (bits_Row_Len.calls g x1000_1 s0_1 t108 t109 w0 _ ?side1 ?side2 A9.out).mono ?_); (case side1 => repeat (first | (with_reducible first | exact HI0.out | apply IsS64.alloc | apply IsS64.drewN | apply IsS64.drew | apply IsS64.set_0) | exact HI0.out)); (case side2 => repeat (first | (with_reducible first | exact HB.out | apply below_alloc | apply pw_below_drewN | apply below_drew1 | refine below_set ?_ (IsS64.ge HI0.out)) | exact HB.out)); rintro e w14 ⟨rfl, hi, hb, hk⟩; refine ⟨_, rfl, ?_⟩; have n0_ := Aside0.mk (KeepBut.trans (by repeat (first | (with_reducible first | exact HK.out | apply KeepBut.set_ | apply keep_drewN | apply keep_drew | apply keep_alloc) | exact HK.out)) hk (.inl rfl)); have n1_ := Aside0.mk (hb); have n2_ := Aside0.mk (hi); clear HK; clear HB; clear HI0; have HK := n0_; have HB := n1_; have HI0 := n2_; clear n0_ n1_ n2_; (try clear hb); (try clear hb2); (try clear hk); (try clear hi)) | (go_at_call 44; (with_reducible refine (bits_Row_Get.calls g t109 s0_1 (wrap64 (t106 + x43_1)) true t111 w0 _ ?side1 ?side2 A12.out).mono ?_); (case side1 => repeat (first | (with_reducible first | exact HI0.out | apply IsS64.alloc | apply IsS64.drewN | apply IsS64.drew | apply IsS64.set_0) | exact HI0.out)); (case side2 => repeat (first | (with_reducible first | exact HB.out | apply below_alloc | apply pw_below_drewN | apply below_drew1 | refine below_set ?_ (IsS64.ge HI0.out)) | exact HB.out)); rintro e w15 ⟨rfl, hi, hb, hk⟩; have n0_ := Aside0.mk (KeepBut.trans (by repeat (first | (with_reducible first | exact HK.out | apply KeepBut.set_ | apply keep_drewN | apply keep_drew | apply keep_alloc) | exact HK.out)) hk (.inl rfl)); have n1_ := Aside0.mk (hb); have n2_ := Aside0.mk (hi); clear HK; clear HB; clear HI0; have HK := n0_; have HB := n1_; have HI0 := n2_; clear n0_ n1_ n2_; (try clear hb); (try clear hb2); (try clear hk); (try clear hi)))
                go_ret
                exact ⟨by first | rfl | (simp [errW_none, errW_some] <;> rfl) | (simp [*, errW_none, errW_some] <;> rfl), below_through HBI.out HBV.out (by repeat (first | (with_reducible first | exact HB.out | apply below_alloc | apply pw_below_drewN | apply below_drew1 | refine below_set ?_ (IsS64.ge HI0.out)) | exact HB.out)) HSV.out⟩
              · replace c13 := Bool.eq_false_iff.mpr c13
                subst c13
                have H1 : (ashlarlaw01_BitsRun.l0 k1 (wrap64 (1 + (wrap64 (Int.tmod a2 40)))) t106 (wrap64 (1 + (wrap64 (Int.tmod a2 40)))) (wrap64 (x43_1 + 1)) t111 s0_1) = some (r1, r2) := by rw [if_neg (show ¬ (false = true) by decide)] at H; exact H
                clear H
                have H := H1
                clear H1
                have H' := Aside0.mk H
                clear H
                go_wp2_with (first | ((with_reducible refine gate_callee (f := 43) rfl ?_); refine goesL_ (some 50) rfl rfl Try.func43 (by kernel_rfl) rfl #[.pointer (some ⟨g, 0, none⟩)] rfl (by (try simp only [List.map_toArray, List.map_cons, List.map_nil]); first | done | rfl | (simp only [List.length_drop, List.length_take]; rfl)) ?_; (with_reducible refine (bits_Row_Len.calls g x1000_1 s0_1 t108 t109 w0 _ ?side1 ?side2 A9.out).mono ?_); (case side1 => repeat (first | (with_reducible first | exact HI0.out | apply IsS64.alloc | apply IsS64.drewN | apply IsS64.drew | apply IsS64.set_0) | exact HI0.out)); (case side2 => repeat (first | (with_reducible first | exact HB.out | apply below_alloc | apply pw_below_drewN | apply below_drew1 | refine below_set ?_ (IsS64.ge HI0.out)) | exact HB.out)); rintro e w16 ⟨rfl, hi, hb, hk⟩; refine ⟨_, rfl, ?_⟩; have n0_ := Aside0.mk (KeepBut.trans (by repeat (first | (with_reducible first | exact HK.out | apply KeepBut.set_ | apply keep_drewN | apply keep_drew | apply keep_alloc) | exact HK.out)) hk (.inl rfl)); have n1_ := Aside0.mk (hb); have n2_ := Aside0.mk (hi); clear HK; clear HB; clear HI0; have HK := n0_; have HB := n1_; have HI0 := n2_; clear n0_ n1_ n2_; (try clear hb); (try clear hb2); (try clear hk); (try clear hi)) | (go_at_call 44; (with_reducible refine (bits_Row_Get.calls g t109 s0_1 (wrap64 (t106 + x43_1)) false t111 w0 _ ?side1 ?side2 A12.out).mono ?_); (case side1 => repeat (first | (with_reducible first | exact HI0.out | apply IsS64.alloc | apply IsS64.drewN | apply IsS64.drew | apply IsS64.set_0) | exact HI0.out)); (case side2 => repeat (first | (with_reducible first | exact HB.out | apply below_alloc | apply pw_below_drewN | apply below_drew1 | refine below_set ?_ (IsS64.ge HI0.out)) | exact HB.out)); rintro e w17 ⟨rfl, hi, hb, hk⟩; have n0_ := Aside0.mk (KeepBut.trans (by repeat (first | (with_reducible first | exact HK.out | apply KeepBut.set_ | apply keep_drewN | apply keep_drew | apply keep_alloc) | exact HK.out)) hk (.inl rfl)); have n1_ := Aside0.mk (hb); have n2_ := Aside0.mk (hi); clear HK; clear HB; clear HI0; have HK := n0_; have HB := n1_; have HI0 := n2_; clear n0_ n1_ n2_; (try clear hb); (try clear hb2); (try clear hk); (try clear hi)))
                go_roundg k1
                case measure => have := HK1.out; omega
                case rel => exact ⟨(wrap64 (x43_1 + 1)), (t111), (by first | rfl | (simp; done) | (simp [*]; done)), H', ⟨by have := HK1.out; omega⟩, ⟨by repeat (first | (with_reducible first | exact HI0.out | apply IsS64.alloc | apply IsS64.drewN | apply IsS64.drew | apply IsS64.set_0) | exact HI0.out)⟩, ⟨by repeat (first | (with_reducible first | exact HK.out | apply KeepBut.set_ | apply keep_drewN | apply keep_drew | apply keep_alloc) | exact HK.out)⟩, ⟨by repeat (first | (with_reducible first | exact HB.out | apply below_alloc | apply pw_below_drewN | apply below_drew1 | refine below_set ?_ (IsS64.ge HI0.out)) | exact HB.out)⟩⟩
          · rw [if_neg c8] at H
            have c8b0 : decide (x43_1 < (wrap64 (1 + (wrap64 (Int.tmod a2 40))))) = false := decide_eq_false c8
            clear c8
            have H' := Aside0.mk H
            clear H
            go_wp2
            go_meet
            case rel => exact ⟨_, (x1000_1), H', ⟨by have := HK1.out; first | omega | exact Nat.le_refl _⟩, ⟨by repeat (first | (with_reducible first | exact HI0.out | apply IsS64.alloc | apply IsS64.drewN | apply IsS64.drew | apply IsS64.set_0) | exact HI0.out)⟩, ⟨by repeat (first | (with_reducible first | exact HK.out | apply KeepBut.set_ | apply keep_drewN | apply keep_drew | apply keep_alloc) | exact HK.out)⟩, ⟨by repeat (first | (with_reducible first | exact HB.out | apply below_alloc | apply pw_below_drewN | apply below_drew1 | refine below_set ?_ (IsS64.ge HI0.out)) | exact HB.out)⟩⟩
    · rw [if_neg c7] at H
      have c7b0 : decide (0 ≤ t106) = false := decide_eq_false c7
      clear c7
      (first | rw [c7b0] | (simp only [i64_w, i32_w]; rw [c7b0]) | skip)
      have H' := Aside0.mk H
      clear H
      go_wp2
      go_meet
      case rel => exact ⟨_, (t107), H', ⟨by first | omega | exact Nat.le_refl _⟩, ⟨by repeat (first | (with_reducible first | exact HI0.out | apply IsS64.alloc | apply IsS64.drewN | apply IsS64.drew | apply IsS64.set_0) | exact HI0.out)⟩, ⟨by repeat (first | (with_reducible first | exact HK.out | apply KeepBut.set_ | apply keep_drewN | apply keep_drew | apply keep_alloc) | exact HK.out)⟩, ⟨by repeat (first | (with_reducible first | exact HB.out | apply below_alloc | apply pw_below_drewN | apply below_drew1 | refine below_set ?_ (IsS64.ge HI0.out)) | exact HB.out)⟩⟩
  case rest =>
    clear HC5
    try clear c1
    try clear p2
    try clear c4
    try clear p6
    try clear c7
    try clear c7b0
    try clear c8
    try clear c8b0
    try clear c10
    try clear c10b0
    try clear c13
    try clear p2
    try clear p6
    obtain ⟨kq, x1000_4, HA, HJ4, HI0, HK, HB⟩ := hcut
    cases kq with
    | zero => exact absurd HA.out (by simp [ashlarlaw01_BitsRun.j1])
    | succ kj4 =>
      have H := HA.out
      clear HA
      simp only [ashlarlaw01_BitsRun.j1] at H
      replace H := Option.bind_eq_some_iff.mp H
      obtain ⟨⟨t112, t113⟩, A180, H⟩ := H
      replace H : (ashlarlaw01_BitsRun.l1 kj4 (wrap64 (1 + (wrap64 (Int.tmod a2 40)))) t106 t112 0 t113 s0_1) = some (r1, r2) := H
      have A18 := Aside0.mk A180
      clear A180
      have H' := Aside0.mk H
      clear H
      go_wp2_with (first | ((with_reducible refine gate_callee (f := 43) rfl ?_); refine goesL_ (some 61) rfl rfl Try.func43 (by kernel_rfl) rfl #[.pointer (some ⟨g, 0, none⟩)] rfl (by (try simp only [List.map_toArray, List.map_cons, List.map_nil]); first | done | rfl | (simp only [List.length_drop, List.length_take]; rfl)) ?_; (with_reducible refine (bits_Row_Len.calls g x1000_4 s0_1 t112 t113 w0 _ ?side1 ?side2 A18.out).mono ?_); (case side1 => repeat (first | (with_reducible first | exact HI0.out | apply IsS64.alloc | apply IsS64.drewN | apply IsS64.drew | apply IsS64.set_0) | exact HI0.out)); (case side2 => repeat (first | (with_reducible first | exact HB.out | apply below_alloc | apply pw_below_drewN | apply below_drew1 | refine below_set ?_ (IsS64.ge HI0.out)) | exact HB.out)); rintro e w19 ⟨rfl, hi, hb, hk⟩; refine ⟨_, rfl, ?_⟩; have n0_ := Aside0.mk (KeepBut.trans (by repeat (first | (with_reducible first | exact HK.out | apply KeepBut.set_ | apply keep_drewN | apply keep_drew | apply keep_alloc) | exact HK.out)) hk (.inl rfl)); have n1_ := Aside0.mk (hb); have n2_ := Aside0.mk (hi); clear HK; clear HB; clear HI0; have HK := n0_; have HB := n1_; have HI0 := n2_; clear n0_ n1_ n2_; (try clear hb); (try clear hb2); (try clear hk); (try clear hi)))
      go_loopg [62] kj4 (fun kq v62 w' => ∃ (x62_2 : Int) (x1000_2 : Int), v62 = .int .i64 x62_2 ∧ Aside0 (ashlarlaw01_BitsRun.l1 kq (wrap64 (1 + (wrap64 (Int.tmod a2 40)))) t106 t112 x62_2 x1000_2 s0_1 = some (r1, r2)) ∧ Aside0 (kq ≤ kj4) ∧ Aside0 (IsS64 w0 w' g x1000_2 s0_1) ∧ Aside0 (KeepBut w w' g none) ∧ Aside0 (Below w0.heap.size w0 w'))
      case atStart => exact ⟨(0), (t113), (by first | rfl | (simp; done) | (simp [*]; done)), H', ⟨Nat.le_refl _⟩, ⟨by repeat (first | (with_reducible first | exact HI0.out | apply IsS64.alloc | apply IsS64.drewN | apply IsS64.drew | apply IsS64.set_0) | exact HI0.out)⟩, ⟨by repeat (first | (with_reducible first | exact HK.out | apply KeepBut.set_ | apply keep_drewN | apply keep_drew | apply keep_alloc) | exact HK.out)⟩, ⟨by repeat (first | (with_reducible first | exact HB.out | apply below_alloc | apply pw_below_drewN | apply below_drew1 | refine below_set ?_ (IsS64.ge HI0.out)) | exact HB.out)⟩⟩
      case round =>
        clear H'
        try clear c1
        try clear p2
        try clear c4
        try clear p6
        try clear c7
        try clear c7b0
        try clear c8
        try clear c8b0
        try clear c10
        try clear c10b0
        try clear c13
        try clear p2
        try clear p6
        obtain ⟨x62_2, x1000_2, rfl, HA, HK2, HI0, HK, HB⟩ := hrel
        cases gk with
        | zero => exact absurd HA.out (by simp [ashlarlaw01_BitsRun.l1])
        | succ k2 =>
          have H := HA.out
          clear HA
          simp only [ashlarlaw01_BitsRun.l1] at H
          by_cases c20 : x62_2 < t112
          · rw [if_pos c20] at H
            have c20b0 : decide (x62_2 < t112) = true := decide_eq_true c20
            clear c20
            have HC21 := Aside0.mk H
            clear H
            go_upto_region 17 with (fail)
            go_cut [71] (fun v71 wc => ∃ (kq : Nat) (x71_20 : Bool), v71 = .bool x71_20 ∧ Aside0 (ashlarlaw01_BitsRun.j3 kq (wrap64 (1 + (wrap64 (Int.tmod a2 40)))) t106 x62_2 t112 x62_2 x71_20 x1000_2 s0_1 = some (r1, r2)) ∧ Aside0 (kq ≤ k2) ∧ Aside0 (IsS64 w0 wc g x1000_2 s0_1) ∧ Aside0 (KeepBut w wc g none) ∧ Aside0 (Below w0.heap.size w0 wc))
            case first =>
              have H := HC21.out
              clear HC21
              by_cases c22 : t106 ≥ 0
              · rw [if_pos c22] at H
                have c22b0 : decide (0 ≤ t106) = true := decide_eq_true c22
                clear c22
                (first | rw [c22b0] | (simp only [i64_w, i32_w]; rw [c22b0]) | skip)
                have H' := Aside0.mk H
                clear H
                go_wp2
                go_meet
                case rel => exact ⟨_, (decide (x62_2 ≥ t106)), (by first | rfl | (simp; done) | (simp [*]; done)), H', ⟨by have := HJ4.out; have := HK2.out; first | omega | exact Nat.le_refl _⟩, ⟨by repeat (first | (with_reducible first | exact HI0.out | apply IsS64.alloc | apply IsS64.drewN | apply IsS64.drew | apply IsS64.set_0) | exact HI0.out)⟩, ⟨by repeat (first | (with_reducible first | exact HK.out | apply KeepBut.set_ | apply keep_drewN | apply keep_drew | apply keep_alloc) | exact HK.out)⟩, ⟨by repeat (first | (with_reducible first | exact HB.out | apply below_alloc | apply pw_below_drewN | apply below_drew1 | refine below_set ?_ (IsS64.ge HI0.out)) | exact HB.out)⟩⟩
              · rw [if_neg c22] at H
                have c22b0 : decide (0 ≤ t106) = false := decide_eq_false c22
                clear c22
                (first | rw [c22b0] | (simp only [i64_w, i32_w]; rw [c22b0]) | skip)
                have H' := Aside0.mk H
                clear H
                go_wp2
                go_meet
                case rel => exact ⟨_, (false), (by first | rfl | (simp; done) | (simp [*]; done)), H', ⟨by have := HJ4.out; have := HK2.out; first | omega | exact Nat.le_refl _⟩, ⟨by repeat (first | (with_reducible first | exact HI0.out | apply IsS64.alloc | apply IsS64.drewN | apply IsS64.drew | apply IsS64.set_0) | exact HI0.out)⟩, ⟨by repeat (first | (with_reducible first | exact HK.out | apply KeepBut.set_ | apply keep_drewN | apply keep_drew | apply keep_alloc) | exact HK.out)⟩, ⟨by repeat (first | (with_reducible first | exact HB.out | apply below_alloc | apply pw_below_drewN | apply below_drew1 | refine below_set ?_ (IsS64.ge HI0.out)) | exact HB.out)⟩⟩
            case rest =>
              clear HC21
              try clear c1
              try clear c2
              try clear p2
              try clear c4
              try clear p6
              try clear c7
              try clear c7b0
              try clear c8
              try clear c8b0
              try clear c10
              try clear c10b0
              try clear c13
              try clear c20
              try clear c20b0
              try clear c22
              try clear c22b0
              try clear p2
              try clear p6
              obtain ⟨kq, x71_20, rfl, HA, HJ20, HI0, HK, HB⟩ := hcut
              cases kq with
              | zero => exact absurd HA.out (by simp [ashlarlaw01_BitsRun.j3])
              | succ kj20 =>
                have H := HA.out
                clear HA
                simp only [ashlarlaw01_BitsRun.j3] at H
                by_cases c23 : x71_20 = true
                · subst c23
                  have H1 : (some (true, x1000_2)) = some (r1, r2) := by rw [if_pos rfl] at H; exact H
                  clear H
                  have H := H1
                  clear H1
                  simp only [Option.some.injEq, Prod.mk.injEq] at H
                  obtain ⟨rfl, rfl⟩ := H
                  go_wp2
                  go_ret
                  exact ⟨by first | rfl | (simp [errW_none, errW_some] <;> rfl) | (simp [*, errW_none, errW_some] <;> rfl), below_through HBI.out HBV.out (by repeat (first | (with_reducible first | exact HB.out | apply below_alloc | apply pw_below_drewN | apply below_drew1 | refine below_set ?_ (IsS64.ge HI0.out)) | exact HB.out)) HSV.out⟩
                · replace c23 := Bool.eq_false_iff.mpr c23
                  subst c23
                  have H1 : (ashlarlaw01_BitsRun.l2 kj20 (wrap64 (1 + (wrap64 (Int.tmod a2 40)))) t106 x62_2 0 t112 x62_2 x1000_2 s0_1) = some (r1, r2) := by rw [if_neg (show ¬ (false = true) by decide)] at H; exact H
                  clear H
                  have H := H1
                  clear H1
                  have H' := Aside0.mk H
                  clear H
                  go_wp2
                  go_loopg [13] kj20 (fun kq v13 w' => ∃ (x13_4 : Int) (x1000_4 : Int), v13 = .int .i64 x13_4 ∧ Aside0 (ashlarlaw01_BitsRun.l2 kq (wrap64 (1 + (wrap64 (Int.tmod a2 40)))) t106 x62_2 x13_4 t112 x62_2 x1000_4 s0_1 = some (r1, r2)) ∧ Aside0 (kq ≤ kj20) ∧ Aside0 (IsS64 w0 w' g x1000_4 s0_1) ∧ Aside0 (KeepBut w w' g none) ∧ Aside0 (Below w0.heap.size w0 w'))
                  case atStart => exact ⟨(0), (x1000_2), (by first | rfl | (simp; done) | (simp [*]; done)), H', ⟨Nat.le_refl _⟩, ⟨by repeat (first | (with_reducible first | exact HI0.out | apply IsS64.alloc | apply IsS64.drewN | apply IsS64.drew | apply IsS64.set_0) | exact HI0.out)⟩, ⟨by repeat (first | (with_reducible first | exact HK.out | apply KeepBut.set_ | apply keep_drewN | apply keep_drew | apply keep_alloc) | exact HK.out)⟩, ⟨by repeat (first | (with_reducible first | exact HB.out | apply below_alloc | apply pw_below_drewN | apply below_drew1 | refine below_set ?_ (IsS64.ge HI0.out)) | exact HB.out)⟩⟩
                  case round =>
                    clear H'
                    try clear c1
                    try clear c2
                    try clear p2
                    try clear c4
                    try clear p6
                    try clear c7
                    try clear c7b0
                    try clear c8
                    try clear c8b0
                    try clear c10
                    try clear c10b0
                    try clear c13
                    try clear c20
                    try clear c20b0
                    try clear c22
                    try clear c22b0
                    try clear c23
                    try clear p2
                    try clear p6
                    obtain ⟨x13_4, x1000_4, rfl, HA, HK4, HI0, HK, HB⟩ := hrel
                    cases gk with
                    | zero => exact absurd HA.out (by simp [ashlarlaw01_BitsRun.l2])
                    | succ k4 =>
                      have H := HA.out
                      clear HA
                      simp only [ashlarlaw01_BitsRun.l2] at H
                      by_cases c24 : x13_4 < (wrap64 (1 + (wrap64 (Int.tmod a2 40))))
                      · rw [if_pos c24] at H
                        have c24b0 : decide (x13_4 < (wrap64 (1 + (wrap64 (Int.tmod a2 40))))) = true := decide_eq_true c24
                        clear c24
                        replace H := Option.bind_eq_some_iff.mp H
                        obtain ⟨⟨t114, t115⟩, A250, H⟩ := H
                        replace H : (if (wrap64 (x62_2 + x13_4)) < t114 then ((bits_Row_Get.f t115 s0_1 (wrap64 (x62_2 + x13_4))).bind fun bt116 => (if bt116.1 = true then (if x13_4 = (wrap64 (1 + (wrap64 (Int.tmod a2 40)))) then (some (false, bt116.2)) else (ashlarlaw01_BitsRun.l1 k4 (wrap64 (1 + (wrap64 (Int.tmod a2 40)))) t106 t112 (wrap64 (x62_2 + 1)) bt116.2 s0_1)) else (ashlarlaw01_BitsRun.l2 k4 (wrap64 (1 + (wrap64 (Int.tmod a2 40)))) t106 x62_2 (wrap64 (x13_4 + 1)) t112 x62_2 bt116.2 s0_1))) else (if x13_4 = (wrap64 (1 + (wrap64 (Int.tmod a2 40)))) then (some (false, t115)) else (ashlarlaw01_BitsRun.l1 k4 (wrap64 (1 + (wrap64 (Int.tmod a2 40)))) t106 t112 (wrap64 (x62_2 + 1)) t115 s0_1))) = some (r1, r2) := H
                        have A25 := Aside0.mk A250
                        clear A250
                        by_cases c26 : (wrap64 (x62_2 + x13_4)) < t114
                        · rw [if_pos c26] at H
                          have c26b0 : decide ((wrap64 (x62_2 + x13_4)) < t114) = true := decide_eq_true c26
                          clear c26
                          replace H := Option.bind_eq_some_iff.mp H
                          obtain ⟨⟨t116, t117⟩, A270, H⟩ := H
                          replace H : (if t116 = true then (if x13_4 = (wrap64 (1 + (wrap64 (Int.tmod a2 40)))) then (some (false, t117)) else (ashlarlaw01_BitsRun.l1 k4 (wrap64 (1 + (wrap64 (Int.tmod a2 40)))) t106 t112 (wrap64 (x62_2 + 1)) t117 s0_1)) else (ashlarlaw01_BitsRun.l2 k4 (wrap64 (1 + (wrap64 (Int.tmod a2 40)))) t106 x62_2 (wrap64 (x13_4 + 1)) t112 x62_2 t117 s0_1)) = some (r1, r2) := H
                          have A27 := Aside0.mk A270
                          clear A270
                          by_cases c28 : t116 = true
                          · subst c28
                            have H1 : (if x13_4 = (wrap64 (1 + (wrap64 (Int.tmod a2 40)))) then (some (false, t117)) else (ashlarlaw01_BitsRun.l1 k4 (wrap64 (1 + (wrap64 (Int.tmod a2 40)))) t106 t112 (wrap64 (x62_2 + 1)) t117 s0_1)) = some (r1, r2) := by rw [if_pos rfl] at H; exact H
                            clear H
                            have H := H1
                            clear H1
                            by_cases c29 : x13_4 = (wrap64 (1 + (wrap64 (Int.tmod a2 40))))
                            · rw [if_pos c29] at H
                              have c29b0 : (x13_4 == (wrap64 (1 + (wrap64 (Int.tmod a2 40))))) = true := beq_iff_eq.mpr c29
                              have c29b1 : (x13_4 != (wrap64 (1 + (wrap64 (Int.tmod a2 40))))) = false := bne_eq_false_iff_eq.mpr c29
                              clear c29
                              simp only [Option.some.injEq, Prod.mk.injEq] at H
                              obtain ⟨rfl, rfl⟩ := H
                              go_wp2_with (first | (go_at_call 43; (with_reducible refine (bits_Row_Len.calls g x1000_4 s0_1 t114 t115 w0 _ ?side1 ?side2 A25.out).mono ?_); (case side1 => repeat (first | (with_reducible first | exact HI0.out | apply IsS64.alloc | apply IsS64.drewN | apply IsS64.drew | apply IsS64.set_0) | exact HI0.out)); (case side2 => repeat (first | (with_reducible first | exact HB.out | apply below_alloc | apply pw_below_drewN | apply below_drew1 | refine below_set ?_ (IsS64.ge HI0.out)) | exact HB.out)); rintro e w30 ⟨rfl, hi, hb, hk⟩; have n0_ := Aside0.mk (KeepBut.trans (by repeat (first | (with_reducible first | exact HK.out | apply KeepBut.set_ | apply keep_drewN | apply keep_drew | apply keep_alloc) | exact HK.out)) hk (.inl rfl)); have n1_ := Aside0.mk (hb); have n2_ := Aside0.mk (hi); clear HK; clear HB; clear HI0; have HK := n0_; have HB := n1_; have HI0 := n2_; clear n0_ n1_ n2_; (try clear hb); (try clear hb2); (try clear hk); (try clear hi)) | (go_at_call 44; (with_reducible refine (bits_Row_Get.calls g t115 s0_1 (wrap64 (x62_2 + x13_4)) true t117 w0 _ ?side1 ?side2 A27.out).mono ?_); (case side1 => repeat (first | (with_reducible first | exact HI0.out | apply IsS64.alloc | apply IsS64.drewN | apply IsS64.drew | apply IsS64.set_0) | exact HI0.out)); (case side2 => repeat (first | (with_reducible first | exact HB.out | apply below_alloc | apply pw_below_drewN | apply below_drew1 | refine below_set ?_ (IsS64.ge HI0.out)) | exact HB.out)); rintro e w31 ⟨rfl, hi, hb, hk⟩; have n0_ := Aside0.mk (KeepBut.trans (by repeat (first | (with_reducible first | exact HK.out | apply KeepBut.set_ | apply keep_drewN | apply keep_drew | apply keep_alloc) | exact HK.out)) hk (.inl rfl)); have n1_ := Aside0.mk (hb); have n2_ := Aside0.mk (hi); clear HK; clear HB; clear HI0; have HK := n0_; have HB := n1_; have HI0 := n2_; clear n0_ n1_ n2_; (try clear hb); (try clear hb2); (try clear hk); (try clear hi)))
                              go_ret
                              exact ⟨by first | rfl | (simp [errW_none, errW_some] <;> rfl) | (simp [*, errW_none, errW_some] <;> rfl), below_through HBI.out HBV.out (by repeat (first | (with_reducible first | exact HB.out | apply below_alloc | apply pw_below_drewN | apply below_drew1 | refine below_set ?_ (IsS64.ge HI0.out)) | exact HB.out)) HSV.out⟩
                            · rw [if_neg c29] at H
                              have c29b0 : (x13_4 == (wrap64 (1 + (wrap64 (Int.tmod a2 40))))) = false := beq_eq_false_iff_ne.mpr c29
                              have c29b1 : (x13_4 != (wrap64 (1 + (wrap64 (Int.tmod a2 40))))) = true := bne_iff_ne.mpr c29
                              have H' := Aside0.mk H
                              clear H
                              go_wp2_with (first | (go_at_call 43; (with_reducible refine (bits_Row_Len.calls g x1000_4 s0_1 t114 t115 w0 _ ?side1 ?side2 A25.out).mono ?_); (case side1 => repeat (first | (with_reducible first | exact HI0.out | apply IsS64.alloc | apply IsS64.drewN | apply IsS64.drew | apply IsS64.set_0) | exact HI0.out)); (case side2 => repeat (first | (with_reducible first | exact HB.out | apply below_alloc | apply pw_below_drewN | apply below_drew1 | refine below_set ?_ (IsS64.ge HI0.out)) | exact HB.out)); rintro e w32 ⟨rfl, hi, hb, hk⟩; have n0_ := Aside0.mk (KeepBut.trans (by repeat (first | (with_reducible first | exact HK.out | apply KeepBut.set_ | apply keep_drewN | apply keep_drew | apply keep_alloc) | exact HK.out)) hk (.inl rfl)); have n1_ := Aside0.mk (hb); have n2_ := Aside0.mk (hi); clear HK; clear HB; clear HI0; have HK := n0_; have HB := n1_; have HI0 := n2_; clear n0_ n1_ n2_; (try clear hb); (try clear hb2); (try clear hk); (try clear hi)) | (go_at_call 44; (with_reducible refine (bits_Row_Get.calls g t115 s0_1 (wrap64 (x62_2 + x13_4)) true t117 w0 _ ?side1 ?side2 A27.out).mono ?_); (case side1 => repeat (first | (with_reducible first | exact HI0.out | apply IsS64.alloc | apply IsS64.drewN | apply IsS64.drew | apply IsS64.set_0) | exact HI0.out)); (case side2 => repeat (first | (with_reducible first | exact HB.out | apply below_alloc | apply pw_below_drewN | apply below_drew1 | refine below_set ?_ (IsS64.ge HI0.out)) | exact HB.out)); rintro e w33 ⟨rfl, hi, hb, hk⟩; have n0_ := Aside0.mk (KeepBut.trans (by repeat (first | (with_reducible first | exact HK.out | apply KeepBut.set_ | apply keep_drewN | apply keep_drew | apply keep_alloc) | exact HK.out)) hk (.inl rfl)); have n1_ := Aside0.mk (hb); have n2_ := Aside0.mk (hi); clear HK; clear HB; clear HI0; have HK := n0_; have HB := n1_; have HI0 := n2_; clear n0_ n1_ n2_; (try clear hb); (try clear hb2); (try clear hk); (try clear hi)))
                              go_roundg k4
                              case measure => have := HJ4.out; have := HK2.out; have := HJ20.out; have := HK4.out; omega
                              case rel => exact ⟨(wrap64 (x62_2 + 1)), (t117), (by first | rfl | (simp; done) | (simp [*]; done)), H', ⟨by have := HJ4.out; have := HK2.out; have := HJ20.out; have := HK4.out; omega⟩, ⟨by repeat (first | (with_reducible first | exact HI0.out | apply IsS64.alloc | apply IsS64.drewN | apply IsS64.drew | apply IsS64.set_0) | exact HI0.out)⟩, ⟨by repeat (first | (with_reducible first | exact HK.out | apply KeepBut.set_ | apply keep_drewN | apply keep_drew | apply keep_alloc) | exact HK.out)⟩, ⟨by repeat (first | (with_reducible first | exact HB.out | apply below_alloc | apply pw_below_drewN | apply below_drew1 | refine below_set ?_ (IsS64.ge HI0.out)) | exact HB.out)⟩⟩
                          · replace c28 := Bool.eq_false_iff.mpr c28
                            subst c28
                            have H1 : (ashlarlaw01_BitsRun.l2 k4 (wrap64 (1 + (wrap64 (Int.tmod a2 40)))) t106 x62_2 (wrap64 (x13_4 + 1)) t112 x62_2 t117 s0_1) = some (r1, r2) := by rw [if_neg (show ¬ (false = true) by decide)] at H; exact H
                            clear H
                            have H := H1
                            clear H1
                            have H' := Aside0.mk H
                            clear H
                            go_wp2_with (first | (go_at_call 43; (with_reducible refine (bits_Row_Len.calls g x1000_4 s0_1 t114 t115 w0 _ ?side1 ?side2 A25.out).mono ?_); (case side1 => repeat (first | (with_reducible first | exact HI0.out | apply IsS64.alloc | apply IsS64.drewN | apply IsS64.drew | apply IsS64.set_0) | exact HI0.out)); (case side2 => repeat (first | (with_reducible first | exact HB.out | apply below_alloc | apply pw_below_drewN | apply below_drew1 | refine below_set ?_ (IsS64.ge HI0.out)) | exact HB.out)); rintro e w34 ⟨rfl, hi, hb, hk⟩; have n0_ := Aside0.mk (KeepBut.trans (by repeat (first | (with_reducible first | exact HK.out | apply KeepBut.set_ | apply keep_drewN | apply keep_drew | apply keep_alloc) | exact HK.out)) hk (.inl rfl)); have n1_ := Aside0.mk (hb); have n2_ := Aside0.mk (hi); clear HK; clear HB; clear HI0; have HK := n0_; have HB := n1_; have HI0 := n2_; clear n0_ n1_ n2_; (try clear hb); (try clear hb2); (try clear hk); (try clear hi)) | (go_at_call 44; (with_reducible refine (bits_Row_Get.calls g t115 s0_1 (wrap64 (x62_2 + x13_4)) false t117 w0 _ ?side1 ?side2 A27.out).mono ?_); (case side1 => repeat (first | (with_reducible first | exact HI0.out | apply IsS64.alloc | apply IsS64.drewN | apply IsS64.drew | apply IsS64.set_0) | exact HI0.out)); (case side2 => repeat (first | (with_reducible first | exact HB.out | apply below_alloc | apply pw_below_drewN | apply below_drew1 | refine below_set ?_ (IsS64.ge HI0.out)) | exact HB.out)); rintro e w35 ⟨rfl, hi, hb, hk⟩; have n0_ := Aside0.mk (KeepBut.trans (by repeat (first | (with_reducible first | exact HK.out | apply KeepBut.set_ | apply keep_drewN | apply keep_drew | apply keep_alloc) | exact HK.out)) hk (.inl rfl)); have n1_ := Aside0.mk (hb); have n2_ := Aside0.mk (hi); clear HK; clear HB; clear HI0; have HK := n0_; have HB := n1_; have HI0 := n2_; clear n0_ n1_ n2_; (try clear hb); (try clear hb2); (try clear hk); (try clear hi)))
                            go_roundg k4
                            case measure => have := HJ4.out; have := HK2.out; have := HJ20.out; have := HK4.out; omega
                            case rel => exact ⟨(wrap64 (x13_4 + 1)), (t117), (by first | rfl | (simp; done) | (simp [*]; done)), H', ⟨by have := HJ4.out; have := HK2.out; have := HJ20.out; have := HK4.out; omega⟩, ⟨by repeat (first | (with_reducible first | exact HI0.out | apply IsS64.alloc | apply IsS64.drewN | apply IsS64.drew | apply IsS64.set_0) | exact HI0.out)⟩, ⟨by repeat (first | (with_reducible first | exact HK.out | apply KeepBut.set_ | apply keep_drewN | apply keep_drew | apply keep_alloc) | exact HK.out)⟩, ⟨by repeat (first | (with_reducible first | exact HB.out | apply below_alloc | apply pw_below_drewN | apply below_drew1 | refine below_set ?_ (IsS64.ge HI0.out)) | exact HB.out)⟩⟩
                        · rw [if_neg c26] at H
                          have c26b0 : decide ((wrap64 (x62_2 + x13_4)) < t114) = false := decide_eq_false c26
                          clear c26
                          by_cases c36 : x13_4 = (wrap64 (1 + (wrap64 (Int.tmod a2 40))))
                          · rw [if_pos c36] at H
                            have c36b0 : (x13_4 == (wrap64 (1 + (wrap64 (Int.tmod a2 40))))) = true := beq_iff_eq.mpr c36
                            have c36b1 : (x13_4 != (wrap64 (1 + (wrap64 (Int.tmod a2 40))))) = false := bne_eq_false_iff_eq.mpr c36
                            clear c36
                            simp only [Option.some.injEq, Prod.mk.injEq] at H
                            obtain ⟨rfl, rfl⟩ := H
                            go_wp2_with (first | (go_at_call 43; (with_reducible refine (bits_Row_Len.calls g x1000_4 s0_1 t114 t115 w0 _ ?side1 ?side2 A25.out).mono ?_); (case side1 => repeat (first | (with_reducible first | exact HI0.out | apply IsS64.alloc | apply IsS64.drewN | apply IsS64.drew | apply IsS64.set_0) | exact HI0.out)); (case side2 => repeat (first | (with_reducible first | exact HB.out | apply below_alloc | apply pw_below_drewN | apply below_drew1 | refine below_set ?_ (IsS64.ge HI0.out)) | exact HB.out)); rintro e w37 ⟨rfl, hi, hb, hk⟩; have n0_ := Aside0.mk (KeepBut.trans (by repeat (first | (with_reducible first | exact HK.out | apply KeepBut.set_ | apply keep_drewN | apply keep_drew | apply keep_alloc) | exact HK.out)) hk (.inl rfl)); have n1_ := Aside0.mk (hb); have n2_ := Aside0.mk (hi); clear HK; clear HB; clear HI0; have HK := n0_; have HB := n1_; have HI0 := n2_; clear n0_ n1_ n2_; (try clear hb); (try clear hb2); (try clear hk); (try clear hi)))
                            go_ret
                            exact ⟨by first | rfl | (simp [errW_none, errW_some] <;> rfl) | (simp [*, errW_none, errW_some] <;> rfl), below_through HBI.out HBV.out (by repeat (first | (with_reducible first | exact HB.out | apply below_alloc | apply pw_below_drewN | apply below_drew1 | refine below_set ?_ (IsS64.ge HI0.out)) | exact HB.out)) HSV.out⟩
                          · rw [if_neg c36] at H
                            have c36b0 : (x13_4 == (wrap64 (1 + (wrap64 (Int.tmod a2 40))))) = false := beq_eq_false_iff_ne.mpr c36
                            have c36b1 : (x13_4 != (wrap64 (1 + (wrap64 (Int.tmod a2 40))))) = true := bne_iff_ne.mpr c36
                            have H' := Aside0.mk H
                            clear H
                            go_wp2_with (first | (go_at_call 43; (with_reducible refine (bits_Row_Len.calls g x1000_4 s0_1 t114 t115 w0 _ ?side1 ?side2 A25.out).mono ?_); (case side1 => repeat (first | (with_reducible first | exact HI0.out | apply IsS64.alloc | apply IsS64.drewN | apply IsS64.drew | apply IsS64.set_0) | exact HI0.out)); (case side2 => repeat (first | (with_reducible first | exact HB.out | apply below_alloc | apply pw_below_drewN | apply below_drew1 | refine below_set ?_ (IsS64.ge HI0.out)) | exact HB.out)); rintro e w38 ⟨rfl, hi, hb, hk⟩; have n0_ := Aside0.mk (KeepBut.trans (by repeat (first | (with_reducible first | exact HK.out | apply KeepBut.set_ | apply keep_drewN | apply keep_drew | apply keep_alloc) | exact HK.out)) hk (.inl rfl)); have n1_ := Aside0.mk (hb); have n2_ := Aside0.mk (hi); clear HK; clear HB; clear HI0; have HK := n0_; have HB := n1_; have HI0 := n2_; clear n0_ n1_ n2_; (try clear hb); (try clear hb2); (try clear hk); (try clear hi)))
                            go_roundg k4
                            case measure => have := HJ4.out; have := HK2.out; have := HJ20.out; have := HK4.out; omega
                            case rel => exact ⟨(wrap64 (x62_2 + 1)), (t115), (by first | rfl | (simp; done) | (simp [*]; done)), H', ⟨by have := HJ4.out; have := HK2.out; have := HJ20.out; have := HK4.out; omega⟩, ⟨by repeat (first | (with_reducible first | exact HI0.out | apply IsS64.alloc | apply IsS64.drewN | apply IsS64.drew | apply IsS64.set_0) | exact HI0.out)⟩, ⟨by repeat (first | (with_reducible first | exact HK.out | apply KeepBut.set_ | apply keep_drewN | apply keep_drew | apply keep_alloc) | exact HK.out)⟩, ⟨by repeat (first | (with_reducible first | exact HB.out | apply below_alloc | apply pw_below_drewN | apply below_drew1 | refine below_set ?_ (IsS64.ge HI0.out)) | exact HB.out)⟩⟩
                      · rw [if_neg c24] at H
                        have c24b0 : decide (x13_4 < (wrap64 (1 + (wrap64 (Int.tmod a2 40))))) = false := decide_eq_false c24
                        clear c24
                        by_cases c39 : x13_4 = (wrap64 (1 + (wrap64 (Int.tmod a2 40))))
                        · rw [if_pos c39] at H
                          have c39b0 : (x13_4 == (wrap64 (1 + (wrap64 (Int.tmod a2 40))))) = true := beq_iff_eq.mpr c39
                          have c39b1 : (x13_4 != (wrap64 (1 + (wrap64 (Int.tmod a2 40))))) = false := bne_eq_false_iff_eq.mpr c39
                          clear c39
                          simp only [Option.some.injEq, Prod.mk.injEq] at H
                          obtain ⟨rfl, rfl⟩ := H
                          go_wp2
                          go_ret
                          exact ⟨by first | rfl | (simp [errW_none, errW_some] <;> rfl) | (simp [*, errW_none, errW_some] <;> rfl), below_through HBI.out HBV.out (by repeat (first | (with_reducible first | exact HB.out | apply below_alloc | apply pw_below_drewN | apply below_drew1 | refine below_set ?_ (IsS64.ge HI0.out)) | exact HB.out)) HSV.out⟩
                        · rw [if_neg c39] at H
                          have c39b0 : (x13_4 == (wrap64 (1 + (wrap64 (Int.tmod a2 40))))) = false := beq_eq_false_iff_ne.mpr c39
                          have c39b1 : (x13_4 != (wrap64 (1 + (wrap64 (Int.tmod a2 40))))) = true := bne_iff_ne.mpr c39
                          have H' := Aside0.mk H
                          clear H
                          go_wp2
                          go_roundg k4
                          case measure => have := HJ4.out; have := HK2.out; have := HJ20.out; have := HK4.out; omega
                          case rel => exact ⟨(wrap64 (x62_2 + 1)), (x1000_4), (by first | rfl | (simp; done) | (simp [*]; done)), H', ⟨by have := HJ4.out; have := HK2.out; have := HJ20.out; have := HK4.out; omega⟩, ⟨by repeat (first | (with_reducible first | exact HI0.out | apply IsS64.alloc | apply IsS64.drewN | apply IsS64.drew | apply IsS64.set_0) | exact HI0.out)⟩, ⟨by repeat (first | (with_reducible first | exact HK.out | apply KeepBut.set_ | apply keep_drewN | apply keep_drew | apply keep_alloc) | exact HK.out)⟩, ⟨by repeat (first | (with_reducible first | exact HB.out | apply below_alloc | apply pw_below_drewN | apply below_drew1 | refine below_set ?_ (IsS64.ge HI0.out)) | exact HB.out)⟩⟩
          · rw [if_neg c20] at H
            have c20b0 : decide (x62_2 < t112) = false := decide_eq_false c20
            clear c20
            simp only [Option.some.injEq, Prod.mk.injEq] at H
            obtain ⟨rfl, rfl⟩ := H
            go_wp2
            go_ret
            exact ⟨by first | rfl | (simp [errW_none, errW_some] <;> rfl) | (simp [*, errW_none, errW_some] <;> rfl), below_through HBI.out HBV.out (by repeat (first | (with_reducible first | exact HB.out | apply below_alloc | apply pw_below_drewN | apply below_drew1 | refine below_set ?_ (IsS64.ge HI0.out)) | exact HB.out)) HSV.out⟩
/-- What is left, over numbers and lists. -/
def ashlarlaw01_BitsRun.Pure : Prop := ∀ (n : Int) (b : List Int) (many : Int), b.length ≤ maxLen → b.length * 1 ≤ 140737488351232 → (∀ x ∈ b, (Lit.int .u8 x).wf = true) → (Lit.int .i64 n).wf = true → (Lit.int .u8 many).wf = true → b.length ≤ 1000 → OfOk n b →
    ∃ (k : Nat) (r2 : Int), ashlarlaw01_BitsRun.f k n b 0 many = some (true, r2)
theorem ashlarlaw01_BitsRun.walk (P : ashlarlaw01_BitsRun.Pure) (a0 : Int) (a1 : Option Addr) (len1 cap1 : Nat) (z1 : List Int) (a2 : Int) (w : World) (w0 : (Lit.int .i64 a0).wf = true) (w1 : (a1 = none ∧ len1 = 0 ∧ cap1 = 0 ∧ z1 = []) ∨ ∃ x, a1 = some x ∧ len1 ≤ cap1 ∧ cap1 ≤ maxLen ∧ z1.length = cap1 ∧ (∀ i, i < z1.length → w.cell? (x.add i) = some (.int .u8 (z1.getD i 0))) ∧ ∀ n ∈ z1, (Lit.int .u8 n).wf = true) (y1 : len1 * 1 ≤ 140737488351232)
    (w2 : (Lit.int .u8 a2).wf = true) :
    Calls Try.prog 8 #[.int .i64 a0, .slice a1 len1 cap1, .int .u8 a2] w fun e w' => e = .returned (.bool true) ∧ Below w.heap.size w w' := by
  obtain ⟨l0, rfl, hr0, hm0, hw0, hc0⟩ := ReadsInt.ofRowC w1
  have hr := Kd.C_of_reads (d := (0 : Int)) (h1 := fun _ => rfl) hr0
  by_cases hl : 1000 < l0.length
  · exact ashlarlaw01_BitsRun.long _ _ a0 l0 a2 w hl
  · by_cases hof : OfOk a0 l0
    · obtain ⟨k, r2, h⟩ := P a0 l0 a2 hm0 y1 hw0 w0 w2 (by omega) hof
      exact ashlarlaw01_BitsRun.mid k _ _ a0 l0 0 a2 true r2 w hr hc0 (by omega) hof h
    · exact ashlarlaw01_BitsRun.bad _ _ a0 l0 a2 w hr hc0 (by omega) hof


end Go.Proofs.Ytpcdfmfmakahkaa.PBitsRun
