/- Written by a program of this session (xprint.py) out of the translation. What is proved, in the end: the Go law BitsPlay answers true at every input, and its arguments read behind the call as before; no condition. -/
import Derived.Test.YtpcdfmfmakahkaaPBitsPlayx0
import Derived.Test.YtpcdfmfmakahkaaPBitsPlayx1
namespace Go.Proofs.Ytpcdfmfmakahkaa.PBitsPlay
open Go.RowKit Go.Proofs.YtpcdfmfmakahkaaW.PrintWords Go.Proofs.YtpcdfmfmakahkaaW.PrintLast Go.Proofs.YtpcdfmfmakahkaaW.PrintMore
attribute [local go_sem] max2_int min2_int max_two min_two max_three min_three max_four min_four   -- for this text's walks alone
set_option linter.unusedVariables false
set_option linter.unusedSimpArgs false

/-! ### ashlarlaw01_BitsPlay: function 10, by hand -/
/-- How many bytes a row of n bits has; how many bits a new row has. -/
def rowBytes (n : Int) : Int := (n + 7).tdiv 8
def clampRow (n : Int) : Int := if 4096 < if n < 0 then 0 else n then 4096 else if n < 0 then 0 else n
theorem clampRow_0 (n : Int) : 0 ≤ clampRow n := by unfold clampRow; omega
theorem clampRow_1 (n : Int) : clampRow n ≤ 4096 := by unfold clampRow; omega
theorem rowBytes_0 {m : Int} (h0 : 0 ≤ m) (h1 : m ≤ 4096) : 0 ≤ rowBytes m ∧ rowBytes m ≤ 512 := by unfold rowBytes; rw [Int.tdiv_eq_ediv_of_nonneg (by omega)]; omega
set_option maxHeartbeats 800000 in
set_option maxRecDepth 100000 in
theorem bits_New_calls (n : Int) (w : World) : Calls Try.prog 51 #[.int .i64 n] w fun e w' => ∃ g v, e = .returned (.pointer (some ⟨g, 0, none⟩)) ∧ w'.heap[g]? = some (.cells #[.int .i64 (clampRow n), v] 64 (0, 0)) ∧ Kd.R (Kd.int .u8) 5 w' w.heap.size (fun k => k < g) v (List.replicate (rowBytes (clampRow n)).toNat 0) ∧ w.heap.size ≤ g ∧ Below w.heap.size w w' := by
  have hu := Try.underlying64
  have info5 : (Try.prog.info? 5).map (fun i => (i.zero, i.size, i.bytes)) = some (some (.int .u8 0), 1, 1) := by kernel_rfl
  obtain ⟨m, hm⟩ : ∃ m, m = clampRow n := ⟨_, rfl⟩
  have hm0 : 0 ≤ m := by rw [hm]; exact clampRow_0 n
  have hm1 : m ≤ 4096 := by rw [hm]; exact clampRow_1 n
  obtain ⟨j, hj⟩ : ∃ j, j = rowBytes m := ⟨_, rfl⟩
  rw [← hm, ← hj]
  have hj0 := (rowBytes_0 hm0 hm1).1
  have hj1 := (rowBytes_0 hm0 hm1).2
  rw [← hj] at hj0 hj1
  go_enter Try.func51, Try.ntmps51
  go_upto_region 2 with (fail)
  rw [show (if 4096 < if n < 0 then 0 else n then 4096 else if n < 0 then 0 else n) = m from hm.symm]
  have e1 : IntKind.i64.wrap (m + 8) = m + 8 := by rw [i64_w]; unfold wrap64; omega
  have e2 : IntKind.i64.wrap (m + 8 - 1) = m + 7 := by rw [i64_w]; unfold wrap64; omega
  have e3 : (m + 7).tdiv 8 = j := hj.symm
  have e4 : IntKind.i64.wrap j = j := by rw [i64_w]; unfold wrap64; omega
  have HJ0 := Aside0.mk hj0
  have HJ1 := Aside0.mk hj1
  clear hm hj hm0 hm1 hj0 hj1
  go_wp2_with (first
    | ((with_reducible refine gate_dst (N := 11) rfl ?_); refine Kd.R_make (Kd.int .u8) _ 5 rfl (N := 11) rfl 28 _ _ rfl j rfl rfl Try.underlying28 (.int .u8 0) 1 info5 rfl (by decide) (by omega) 0 (ok := fun _ => True) (okp := fun _ => True) rfl (fun _ hk => hk) trivial HJ0.out (by have := HJ0.out; have := HJ1.out; omega) (Below.refl _ _) (Nat.le_refl _) ?_; intro v w1 ho hb hg_ hnew_; clear hg_ hnew_; obtain ⟨A2, c2, rfl⟩ := Kd.R_slice ho; have HO1 := Aside0.mk (Kd.R_mono (ok' := fun k => k < w1.heap.size) (Kd.R_bound ho) (fun k hk => hk.2.2.1)); have HB1 := Aside0.mk hb; clear ho hb)
    | ((with_reducible refine gate_dst (N := 13) rfl ?_); refine box_event ?hg (N := 13) ?hd (cs := #[.int .i64 m, .slice A2 (List.replicate j.toNat (0 : Int)).length c2]) (t := 64) ?hr ?_; (case hd => rfl); (case hg => rfl); (case hr => first | (go_simp; done) | (go_simp; rfl)); intro gb hg w2 hbox hb; have HB2 := Aside0.mk (below_step HB1.out hb); have BK := Aside0.mk hbox; have HO2 := Aside0.mk (Kd.R_below HO1.out hb); have HG := Aside0.mk hg; clear hb hbox hg))
  all_goals
    go_ret
    refine ⟨gb, (by first | rfl | simp), _, BK.out, ?_, ?_, HB2.out⟩
    · have h := HO2.out
      rw [HG.out]
      exact h
    · rw [HG.out]
      exact HB1.out.size
theorem clampRow_in {n : Int} (h0 : 0 ≤ n) (h1 : n ≤ 4096) : clampRow n = n := by unfold clampRow; omega
set_option maxHeartbeats 800000 in
set_option maxRecDepth 100000 in
theorem bits_Of_even (n : Int) (A0 : Option Addr) (c0 : Nat) (b : List Int) (w : World) (hr0 : Kd.C (Kd.int .u8) w A0 b.length b) (hc0 : b.length ≤ c0) (h0 : 0 ≤ n) (h1 : n ≤ 4096) (h2 : (b.length : Int) = rowBytes n) (h3 : n.tmod 8 = 0) :
    Calls Try.prog 41 #[.int .i64 n, .slice A0 b.length c0] w fun e w' => ∃ g A c, e = .returned (.tuple #[.pointer (some ⟨g, 0, none⟩), .int .i64 0]) ∧ w'.heap[g]? = some (.cells #[.int .i64 n, .slice A b.length c] 64 (0, 0)) ∧ Kd.R (Kd.int .u8) 5 w' w.heap.size (fun k => k < g) (.slice A b.length c) b ∧ w.heap.size ≤ g ∧ Below w.heap.size w w' := by
  have hu := Try.underlying64
  have HR := Aside0.mk hr0
  have HC := Aside0.mk hc0
  have q1 : decide (n < 0) = false := decide_eq_false (by omega)
  have q2 : decide (4096 < n) = false := decide_eq_false (by omega)
  obtain ⟨z, hz⟩ : ∃ z : List Int, z = List.replicate (rowBytes n).toNat 0 := ⟨_, rfl⟩
  have hzl : z.length = b.length := by rw [hz, List.length_replicate]; omega
  have q3 : ((b.length : Int) != (z.length : Int)) = false := by rw [hzl]; simp
  have q4 : (n.tmod 8 != 0) = false := by rw [h3]; rfl
  have HZ := Aside0.mk hz
  have HZL := Aside0.mk hzl
  have HN := Aside0.mk (clampRow_in h0 h1)
  clear hr0 hc0 h0 h1 h2 h3 hz hzl
  go_enter Try.func41, Try.ntmps41
  go_upto_region 4 with (first
    | (go_at_call 51; go_must (refine (bits_New_calls n _).mono ?_); rw [HN.out, ← HZ.out]; rintro e w1 ⟨g, v, rfl, hbk, ho, hg, hb⟩; obtain ⟨A2, c2, rfl⟩ := Kd.R_slice ho; have HB1 := Aside0.mk hb; have BK := Aside0.mk hbk; have HO := Aside0.mk ho; have HG := Aside0.mk hg; clear hb hbk ho hg))
  have hc0 : w1.cell? ⟨g, 0, none⟩ = some (.int .i64 n) := (blk_cell BK.out 0).trans rfl
  have hc1 : w1.cell? ⟨g, 1, none⟩ = some (.slice A2 z.length c2) := (blk_cell BK.out 1).trans rfl
  have hf0 := blk_frozen BK.out 0
  have hf1 := blk_frozen BK.out 1
  go_upto_region 6 with (fail)
  have info5 : (Try.prog.info? 5).map (·.size) = some 1 := by kernel_rfl
  go_wp2_with (first
    | ((with_reducible refine gate_builtin (b := .copy) (xs := #[.tmp 44, .tmp 45]) rfl ?_); go_must (refine Kd.R_copy (0 : Int) (w0 := w) w.heap.size rfl (.tmp 44) (.tmp 45) 28 28 5 rfl Try.underlying28 info5 (.slice A2 z.length c2) z b A0 b.length c0 (fun k => k < g) rfl rfl HO.out (Kd.C_below HR.out HB1.out) HB1.out HB1.out.size ?_); intro w2 ho hb hg; have HO2 := Aside0.mk ho; have HB2 := Aside0.mk hb; have HGR := Aside0.mk hg; clear ho hb hg))
  go_ret2
  have hne : some g ≠ (Value.slice A2 z.length c2).ownBlock := fun e => absurd (HO.out.1 g e.symm) (Nat.lt_irrefl g)
  have e1 : b.take (min b.length z.length) ++ z.drop (min b.length z.length) = b := by rw [HZL.out, Nat.min_self, List.take_length, List.drop_of_length_le (by rw [HZL.out]; exact Nat.le_refl _), List.append_nil]
  refine ⟨g, A2, c2, rfl, ?_, ?_, HG.out, HB2.out⟩
  · have := blk_grown BK.out HGR.out hne
    rwa [HZL.out] at this
  · have := HO2.out
    rw [e1, HZL.out] at this
    exact this
set_option maxHeartbeats 800000 in
set_option maxRecDepth 100000 in
theorem bits_Of_odd (n : Int) (A0 : Option Addr) (c0 : Nat) (b : List Int) (w : World) (hr0 : Kd.C (Kd.int .u8) w A0 b.length b) (hc0 : b.length ≤ c0) (h0 : 0 ≤ n) (h1 : n ≤ 4096) (h2 : (b.length : Int) = rowBytes n) (h3 : n.tmod 8 ≠ 0) (h4 : shr .u8 (rd b ((b.length : Int) - 1)) (n.tmod 8) = 0) :
    Calls Try.prog 41 #[.int .i64 n, .slice A0 b.length c0] w fun e w' => ∃ g A c, e = .returned (.tuple #[.pointer (some ⟨g, 0, none⟩), .int .i64 0]) ∧ w'.heap[g]? = some (.cells #[.int .i64 n, .slice A b.length c] 64 (0, 0)) ∧ Kd.R (Kd.int .u8) 5 w' w.heap.size (fun k => k < g) (.slice A b.length c) b ∧ w.heap.size ≤ g ∧ Below w.heap.size w w' := by
  have hu := Try.underlying64
  have HR := Aside0.mk hr0
  have HC := Aside0.mk hc0
  have q1 : decide (n < 0) = false := decide_eq_false (by omega)
  have q2 : decide (4096 < n) = false := decide_eq_false (by omega)
  obtain ⟨z, hz⟩ : ∃ z : List Int, z = List.replicate (rowBytes n).toNat 0 := ⟨_, rfl⟩
  have hzl : z.length = b.length := by rw [hz, List.length_replicate]; omega
  have q3 : ((b.length : Int) != (z.length : Int)) = false := by rw [hzl]; simp
  have q4 : (n.tmod 8 != 0) = true := bne_iff_ne.2 h3
  have t0 : 0 ≤ n.tmod 8 ∧ n.tmod 8 < 8 := by rw [Int.tmod_eq_emod_of_nonneg h0]; omega
  have hbl : 1 ≤ b.length := by
    have : n.tmod 8 = n % 8 := Int.tmod_eq_emod_of_nonneg h0
    have e : rowBytes n = (n + 7) / 8 := by unfold rowBytes; rw [Int.tdiv_eq_ediv_of_nonneg (by omega)]
    omega
  have hblm : b.length ≤ 512 := by have := (rowBytes_0 h0 h1).2; omega
  obtain ⟨ji, hji⟩ : ∃ ji, ji = (b.length : Int) - 1 := ⟨_, rfl⟩
  rw [← hji] at h4
  obtain ⟨ad, e101, hx⟩ := Kd.at_int hr0 ji (by omega) (by omega)
  cases e101
  have HX := Aside0.mk hx
  obtain ⟨tm, htm⟩ : ∃ tm, tm = n.tmod 8 := ⟨_, rfl⟩
  have htm' : n.tmod 8 = tm := htm.symm
  rw [← htm] at h4 q4 t0
  have e1 : IntKind.i64.wrap ((b.length : Int) - 1) = ji := by rw [i64_w, ← hji]; unfold wrap64; omega
  have e2 : IntKind.u64.wrap tm = tm := by rw [IntKind.wrap_u64]; omega
  have e3 : (rd b ji) / 2 ^ min tm.toNat 8 = 0 := h4
  have e3z := shr_small h4 (show tm ≤ 8 by omega)
  have p1 : (0 ≤ ji) = True := eq_true (by omega)
  have p2 : (ji < (b.length : Int)) = True := eq_true (by omega)
  have p3 : (0 ≤ tm) = True := eq_true (by omega)
  have p4 : decide (0 ≤ tm) = true := decide_eq_true (by omega)
  clear hx hji htm h4 t0 hbl hblm
  have HZ := Aside0.mk hz
  have HZL := Aside0.mk hzl
  have HN := Aside0.mk (clampRow_in h0 h1)
  clear hr0 hc0 h0 h1 h2 h3 hz hzl
  go_enter Try.func41, Try.ntmps41
  go_upto_region 4 with (first
    | (go_at_call 51; go_must (refine (bits_New_calls n _).mono ?_); rw [HN.out, ← HZ.out]; rintro e w1 ⟨g, v, rfl, hbk, ho, hg, hb⟩; obtain ⟨A2, c2, rfl⟩ := Kd.R_slice ho; have HB1 := Aside0.mk hb; have BK := Aside0.mk hbk; have HO := Aside0.mk ho; have HG := Aside0.mk hg; clear hb hbk ho hg))
  have hc0 : w1.cell? ⟨g, 0, none⟩ = some (.int .i64 n) := (blk_cell BK.out 0).trans rfl
  have hc1 : w1.cell? ⟨g, 1, none⟩ = some (.slice A2 z.length c2) := (blk_cell BK.out 1).trans rfl
  have hf0 := blk_frozen BK.out 0
  have hf1 := blk_frozen BK.out 1
  have hx := pw_cell_below HB1.out HX.out
  go_upto_region 6 with (fail)
  have info5 : (Try.prog.info? 5).map (·.size) = some 1 := by kernel_rfl
  go_wp2_with (first
    | ((with_reducible refine gate_builtin (b := .copy) (xs := #[.tmp 44, .tmp 45]) rfl ?_); go_must (refine Kd.R_copy (0 : Int) (w0 := w) w.heap.size rfl (.tmp 44) (.tmp 45) 28 28 5 rfl Try.underlying28 info5 (.slice A2 z.length c2) z b (some ad) b.length c0 (fun k => k < g) rfl rfl HO.out (Kd.C_below HR.out HB1.out) HB1.out HB1.out.size ?_); intro w2 ho hb hg; have HO2 := Aside0.mk ho; have HB2 := Aside0.mk hb; have HGR := Aside0.mk hg; clear ho hb hg))
  go_ret2
  have hne : some g ≠ (Value.slice A2 z.length c2).ownBlock := fun e => absurd (HO.out.1 g e.symm) (Nat.lt_irrefl g)
  have e1 : b.take (min b.length z.length) ++ z.drop (min b.length z.length) = b := by rw [HZL.out, Nat.min_self, List.take_length, List.drop_of_length_le (by rw [HZL.out]; exact Nat.le_refl _), List.append_nil]
  refine ⟨g, A2, c2, rfl, ?_, ?_, HG.out, HB2.out⟩
  · have := blk_grown BK.out HGR.out hne
    rwa [HZL.out] at this
  · have := HO2.out
    rw [e1, HZL.out] at this
    exact this
set_option maxRecDepth 100000 in
theorem bits_Of_arg (n : Int) (A0 : Option Addr) (c0 : Nat) (b : List Int) (w : World) (h : n < 0 ∨ 4096 < n) :
    Calls Try.prog 41 #[.int .i64 n, .slice A0 b.length c0] w fun e w' => e = .returned (.tuple #[.pointer none, .int .i64 1]) ∧ Below w.heap.size w w' := by
  by_cases h0 : n < 0
  · have q1 : decide (n < 0) = true := decide_eq_true h0
    clear h h0
    go_enter Try.func41, Try.ntmps41
    go_wp2
    go_ret2
    exact ⟨rfl, Below.refl _ _⟩
  · have q1 : decide (n < 0) = false := decide_eq_false h0
    have q2 : decide (4096 < n) = true := decide_eq_true (by omega)
    clear h h0
    go_enter Try.func41, Try.ntmps41
    go_wp2
    go_ret2
    exact ⟨rfl, Below.refl _ _⟩
set_option maxHeartbeats 800000 in
set_option maxRecDepth 100000 in
theorem bits_Of_len (n : Int) (A0 : Option Addr) (c0 : Nat) (b : List Int) (w : World) (hr0 : Kd.C (Kd.int .u8) w A0 b.length b) (hc0 : b.length ≤ c0) (h0 : 0 ≤ n) (h1 : n ≤ 4096) (h2 : (b.length : Int) ≠ rowBytes n) :
    Calls Try.prog 41 #[.int .i64 n, .slice A0 b.length c0] w fun e w' => e = .returned (.tuple #[.pointer none, .int .i64 18]) ∧ Below w.heap.size w w' := by
  have hu := Try.underlying64
  have HR := Aside0.mk hr0
  have HC := Aside0.mk hc0
  have q1 : decide (n < 0) = false := decide_eq_false (by omega)
  have q2 : decide (4096 < n) = false := decide_eq_false (by omega)
  obtain ⟨z, hz⟩ : ∃ z : List Int, z = List.replicate (rowBytes n).toNat 0 := ⟨_, rfl⟩
  have q3 : ((b.length : Int) != (z.length : Int)) = true := bne_iff_ne.2 (by rw [hz, List.length_replicate]; have := (rowBytes_0 h0 h1).1; omega)
  have HZ := Aside0.mk hz
  have HN := Aside0.mk (clampRow_in h0 h1)
  clear hr0 hc0 h0 h1 h2 hz
  go_enter Try.func41, Try.ntmps41
  go_upto_region 4 with (first
    | (go_at_call 51; go_must (refine (bits_New_calls n _).mono ?_); rw [HN.out, ← HZ.out]; rintro e w1 ⟨g, v, rfl, hbk, ho, hg, hb⟩; obtain ⟨A2, c2, rfl⟩ := Kd.R_slice ho; have HB1 := Aside0.mk hb; have BK := Aside0.mk hbk; have HO := Aside0.mk ho; have HG := Aside0.mk hg; clear hb hbk ho hg))
  have hc0 : w1.cell? ⟨g, 0, none⟩ = some (.int .i64 n) := (blk_cell BK.out 0).trans rfl
  have hc1 : w1.cell? ⟨g, 1, none⟩ = some (.slice A2 z.length c2) := (blk_cell BK.out 1).trans rfl
  have hf0 := blk_frozen BK.out 0
  have hf1 := blk_frozen BK.out 1
  go_wp2
  go_ret2
  exact ⟨rfl, HB1.out⟩
set_option maxHeartbeats 800000 in
set_option maxRecDepth 100000 in
theorem bits_Of_tail (n : Int) (A0 : Option Addr) (c0 : Nat) (b : List Int) (w : World) (hr0 : Kd.C (Kd.int .u8) w A0 b.length b) (hc0 : b.length ≤ c0) (h0 : 0 ≤ n) (h1 : n ≤ 4096) (h2 : (b.length : Int) = rowBytes n) (h3 : n.tmod 8 ≠ 0) (h4 : shr .u8 (rd b ((b.length : Int) - 1)) (n.tmod 8) ≠ 0) :
    Calls Try.prog 41 #[.int .i64 n, .slice A0 b.length c0] w fun e w' => e = .returned (.tuple #[.pointer none, .int .i64 18]) ∧ Below w.heap.size w w' := by
  have hu := Try.underlying64
  have HR := Aside0.mk hr0
  have HC := Aside0.mk hc0
  have q1 : decide (n < 0) = false := decide_eq_false (by omega)
  have q2 : decide (4096 < n) = false := decide_eq_false (by omega)
  obtain ⟨z, hz⟩ : ∃ z : List Int, z = List.replicate (rowBytes n).toNat 0 := ⟨_, rfl⟩
  have hzl : z.length = b.length := by rw [hz, List.length_replicate]; omega
  have q3 : ((b.length : Int) != (z.length : Int)) = false := by rw [hzl]; simp
  have q4 : (n.tmod 8 != 0) = true := bne_iff_ne.2 h3
  have t0 : 0 ≤ n.tmod 8 ∧ n.tmod 8 < 8 := by rw [Int.tmod_eq_emod_of_nonneg h0]; omega
  have hbl : 1 ≤ b.length := by
    have : n.tmod 8 = n % 8 := Int.tmod_eq_emod_of_nonneg h0
    have e : rowBytes n = (n + 7) / 8 := by unfold rowBytes; rw [Int.tdiv_eq_ediv_of_nonneg (by omega)]
    omega
  have hblm : b.length ≤ 512 := by have := (rowBytes_0 h0 h1).2; omega
  obtain ⟨ji, hji⟩ : ∃ ji, ji = (b.length : Int) - 1 := ⟨_, rfl⟩
  rw [← hji] at h4
  obtain ⟨ad, e101, hx⟩ := Kd.at_int hr0 ji (by omega) (by omega)
  cases e101
  have HX := Aside0.mk hx
  obtain ⟨tm, htm⟩ : ∃ tm, tm = n.tmod 8 := ⟨_, rfl⟩
  have htm' : n.tmod 8 = tm := htm.symm
  rw [← htm] at h4 q4 t0
  have e1 : IntKind.i64.wrap ((b.length : Int) - 1) = ji := by rw [i64_w, ← hji]; unfold wrap64; omega
  have e2 : IntKind.u64.wrap tm = tm := by rw [IntKind.wrap_u64]; omega
  obtain ⟨sv, hsv⟩ : ∃ sv, shr .u8 (rd b ji) tm = sv := ⟨_, rfl⟩
  rw [hsv] at h4
  have e3 : (rd b ji) / 2 ^ min tm.toNat 8 = sv := hsv
  have e3z := shr_small hsv (show tm ≤ 8 by omega)
  have q5 : (sv != 0) = true := bne_iff_ne.2 h4
  have p1 : (0 ≤ ji) = True := eq_true (by omega)
  have p2 : (ji < (b.length : Int)) = True := eq_true (by omega)
  have p3 : (0 ≤ tm) = True := eq_true (by omega)
  have p4 : decide (0 ≤ tm) = true := decide_eq_true (by omega)
  clear hx hji htm h4 hsv t0 hbl hblm
  have HZ := Aside0.mk hz
  have HZL := Aside0.mk hzl
  have HN := Aside0.mk (clampRow_in h0 h1)
  clear hr0 hc0 h0 h1 h2 h3 hz hzl
  go_enter Try.func41, Try.ntmps41
  go_upto_region 4 with (first
    | (go_at_call 51; go_must (refine (bits_New_calls n _).mono ?_); rw [HN.out, ← HZ.out]; rintro e w1 ⟨g, v, rfl, hbk, ho, hg, hb⟩; obtain ⟨A2, c2, rfl⟩ := Kd.R_slice ho; have HB1 := Aside0.mk hb; have BK := Aside0.mk hbk; have HO := Aside0.mk ho; have HG := Aside0.mk hg; clear hb hbk ho hg))
  have hc0 : w1.cell? ⟨g, 0, none⟩ = some (.int .i64 n) := (blk_cell BK.out 0).trans rfl
  have hc1 : w1.cell? ⟨g, 1, none⟩ = some (.slice A2 z.length c2) := (blk_cell BK.out 1).trans rfl
  have hf0 := blk_frozen BK.out 0
  have hf1 := blk_frozen BK.out 1
  have hx := pw_cell_below HB1.out HX.out
  go_wp2
  go_ret2
  exact ⟨rfl, HB1.out⟩
/-- A row of bits of one's own at block g: its bytes lie in an elder block. -/
def OwnRow_ (W : World) (base g : Nat) (n : Int) (b : List Int) : Prop := ∃ A c, W.heap[g]? = some (.cells #[.int .i64 n, .slice A b.length c] 64 (0, 0)) ∧ Kd.R (Kd.int .u8) 5 W base (fun k => k < g) (.slice A b.length c) b ∧ base ≤ g
def setBit (b : List Int) (i : Int) (on : Bool) : List Int := b.set (i.tdiv 8).toNat (if on then Go.bits .or .u8 (rd b (i.tdiv 8)) (shl .u8 1 (i.tmod 8)) else Go.bits .andNot .u8 (rd b (i.tdiv 8)) (shl .u8 1 (i.tmod 8)))
set_option maxHeartbeats 800000 in
set_option maxRecDepth 100000 in
theorem bits_Set_true (g : Nat) (i n : Int) (b : List Int) (w0 w : World) (base : Nat) (hI : OwnRow_ w base g n b) (hB : Below base w0 w) (h0 : 0 ≤ i) (h1 : i < n) (h2 : i.tdiv 8 < (b.length : Int)) (hbl : b.length ≤ 512) :
    Calls Try.prog 53 #[.pointer (some ⟨g, 0, none⟩), .int .i64 i, .bool true] w fun e w' => e = .returned (.int .i64 0) ∧ OwnRow_ w' base g n (setBit b i true) ∧ Below base w0 w' := by
  obtain ⟨A, c, hbk, ho, hg⟩ := hI
  have BK := Aside0.mk hbk
  have HG := Aside0.mk hg
  have HB := Aside0.mk hB
  have hc0 : w.cell? ⟨g, 0, none⟩ = some (.int .i64 n) := (blk_cell BK.out 0).trans rfl
  have hc1 : w.cell? ⟨g, 1, none⟩ = some (.slice A b.length c) := (blk_cell BK.out 1).trans rfl
  have hf0 := blk_frozen BK.out 0
  have hf1 := blk_frozen BK.out 1
  have d1 : decide (i < 0) = false := decide_eq_false (by omega)
  have d2 : decide (n ≤ i) = false := decide_eq_false (by omega)
  obtain ⟨q, hq⟩ : ∃ q, i.tdiv 8 = q := ⟨_, rfl⟩
  obtain ⟨tm, htm⟩ : ∃ tm, i.tmod 8 = tm := ⟨_, rfl⟩
  have hq0 : 0 ≤ q := by rw [← hq, Int.tdiv_eq_ediv_of_nonneg h0]; omega
  have t0 : 0 ≤ tm ∧ tm < 8 := by rw [← htm, Int.tmod_eq_emod_of_nonneg h0]; omega
  rw [hq] at h2
  have hpos : 0 < b.length := by omega
  obtain ⟨ga, ca, hform, gb, _⟩ := Kd.R_form ho hpos
  injection hform with hA hln hcc
  subst hA
  clear hln hcc
  have HNE := Aside0.mk (show g ≠ ga from fun e => absurd (ho.1 ga rfl) (by rw [e]; exact Nat.lt_irrefl _))
  have GB := Aside0.mk gb
  obtain ⟨hx0, hfx⟩ := Kd.R_cell 0 ho q hq0 h2
  have hx : w.cell? ⟨ga, q.toNat, none⟩ = some (.int .u8 (rd b q)) := hx0
  clear hx0
  obtain ⟨sv, hsv⟩ : ∃ sv, shl .u8 1 tm = sv := ⟨_, rfl⟩
  have e6 : (2 : Int) ^ min tm.toNat 8 % 256 = sv := by rw [← hsv]; unfold shl; rw [IntKind.wrap_u8, Int.one_mul]; rfl
  have e2 : IntKind.u64.wrap tm = tm := by rw [IntKind.wrap_u64]; omega
  have e5 : IntKind.i64.wrap q = q := by rw [i64_w]; unfold wrap64; omega
  have p1 : (0 ≤ q) = True := eq_true hq0
  have p2 : (q < (b.length : Int)) = True := eq_true h2
  have p3 : (0 ≤ tm) = True := eq_true (by omega)
  have p4 : decide (0 ≤ tm) = true := decide_eq_true (by omega)
  have HP := Aside0.mk (Kd.R_putg ho q (Go.bits .or .u8 (rd b q) sv))
  have HO := Aside0.mk ho
  have hset : setBit b i true = b.set q.toNat (Go.bits .or .u8 (rd b q) sv) := by unfold setBit; rw [hq, htm, hsv]; rfl
  rw [hset]
  clear hbk ho hg hB gb hset h0 h1 h2 hq0 t0 hpos hbl hsv
  go_enter Try.func53, Try.ntmps53
  go_wp2
  go_ret
  refine ⟨rfl, ⟨some ⟨ga, 0, none⟩, c, ?_, ?_, HG.out⟩, HB.out.setCell GB.out _⟩
  · rw [List.length_set]; exact blk_far BK.out HNE.out _
  · rw [List.length_set]; exact HP.out.1
set_option maxHeartbeats 800000 in
set_option maxRecDepth 100000 in
theorem bits_Set_false (g : Nat) (i n : Int) (b : List Int) (w0 w : World) (base : Nat) (hI : OwnRow_ w base g n b) (hB : Below base w0 w) (h0 : 0 ≤ i) (h1 : i < n) (h2 : i.tdiv 8 < (b.length : Int)) (hbl : b.length ≤ 512) :
    Calls Try.prog 53 #[.pointer (some ⟨g, 0, none⟩), .int .i64 i, .bool false] w fun e w' => e = .returned (.int .i64 0) ∧ OwnRow_ w' base g n (setBit b i false) ∧ Below base w0 w' := by
  obtain ⟨A, c, hbk, ho, hg⟩ := hI
  have BK := Aside0.mk hbk
  have HG := Aside0.mk hg
  have HB := Aside0.mk hB
  have hc0 : w.cell? ⟨g, 0, none⟩ = some (.int .i64 n) := (blk_cell BK.out 0).trans rfl
  have hc1 : w.cell? ⟨g, 1, none⟩ = some (.slice A b.length c) := (blk_cell BK.out 1).trans rfl
  have hf0 := blk_frozen BK.out 0
  have hf1 := blk_frozen BK.out 1
  have d1 : decide (i < 0) = false := decide_eq_false (by omega)
  have d2 : decide (n ≤ i) = false := decide_eq_false (by omega)
  obtain ⟨q, hq⟩ : ∃ q, i.tdiv 8 = q := ⟨_, rfl⟩
  obtain ⟨tm, htm⟩ : ∃ tm, i.tmod 8 = tm := ⟨_, rfl⟩
  have hq0 : 0 ≤ q := by rw [← hq, Int.tdiv_eq_ediv_of_nonneg h0]; omega
  have t0 : 0 ≤ tm ∧ tm < 8 := by rw [← htm, Int.tmod_eq_emod_of_nonneg h0]; omega
  rw [hq] at h2
  have hpos : 0 < b.length := by omega
  obtain ⟨ga, ca, hform, gb, _⟩ := Kd.R_form ho hpos
  injection hform with hA hln hcc
  subst hA
  clear hln hcc
  have HNE := Aside0.mk (show g ≠ ga from fun e => absurd (ho.1 ga rfl) (by rw [e]; exact Nat.lt_irrefl _))
  have GB := Aside0.mk gb
  obtain ⟨hx0, hfx⟩ := Kd.R_cell 0 ho q hq0 h2
  have hx : w.cell? ⟨ga, q.toNat, none⟩ = some (.int .u8 (rd b q)) := hx0
  clear hx0
  obtain ⟨sv, hsv⟩ : ∃ sv, shl .u8 1 tm = sv := ⟨_, rfl⟩
  have e6 : (2 : Int) ^ min tm.toNat 8 % 256 = sv := by rw [← hsv]; unfold shl; rw [IntKind.wrap_u8, Int.one_mul]; rfl
  have e2 : IntKind.u64.wrap tm = tm := by rw [IntKind.wrap_u64]; omega
  have e5 : IntKind.i64.wrap q = q := by rw [i64_w]; unfold wrap64; omega
  have p1 : (0 ≤ q) = True := eq_true hq0
  have p2 : (q < (b.length : Int)) = True := eq_true h2
  have p3 : (0 ≤ tm) = True := eq_true (by omega)
  have p4 : decide (0 ≤ tm) = true := decide_eq_true (by omega)
  have HP := Aside0.mk (Kd.R_putg ho q (Go.bits .andNot .u8 (rd b q) sv))
  have HO := Aside0.mk ho
  have hset : setBit b i false = b.set q.toNat (Go.bits .andNot .u8 (rd b q) sv) := by unfold setBit; rw [hq, htm, hsv]; rfl
  rw [hset]
  clear hbk ho hg hB gb hset h0 h1 h2 hq0 t0 hpos hbl hsv
  go_enter Try.func53, Try.ntmps53
  go_wp2
  go_ret
  refine ⟨rfl, ⟨some ⟨ga, 0, none⟩, c, ?_, ?_, HG.out⟩, HB.out.setCell GB.out _⟩
  · rw [List.length_set]; exact blk_far BK.out HNE.out _
  · rw [List.length_set]; exact HP.out.1
theorem below_through {w w0 wa wb : World} (h1 : Below w.heap.size w wa) (h2 : Below w0.heap.size w0 wa) (h3 : Below w0.heap.size w0 wb) (hs : w.heap.size ≤ w0.heap.size) : Below w.heap.size w wb :=
  ⟨h3.os.trans (h2.os.symm.trans h1.os), h3.tape.trans (h2.tape.symm.trans h1.tape), h3.output.trans (h2.output.symm.trans h1.output), Nat.le_trans hs h3.size, fun k hk => (h3.block k (Nat.lt_of_lt_of_le hk hs)).trans ((h2.block k (Nat.lt_of_lt_of_le hk hs)).symm.trans (h1.block k hk))⟩
/-- A row of one's own, seen by those who only read it: the world of the elder blocks stands below it. -/
theorem OwnRow_.view {W : World} {base g : Nat} {n : Int} {b : List Int} (h : OwnRow_ W base g n b) : ∃ w0, IsS64 w0 W g n b ∧ Below w0.heap.size w0 W ∧ base ≤ w0.heap.size := by
  obtain ⟨A, c, hbk, ho, hg⟩ := h
  have hlt : g < W.heap.size := blk_lt hbk
  have hsz : (W.heap.extract 0 g).size = g := by rw [Array.size_extract]; omega
  have hget : ∀ k, k < g → (W.heap.extract 0 g)[k]? = W.heap[k]? := fun k hk => by
    rw [Array.getElem?_extract]
    simp; omega
  refine ⟨{ W with heap := W.heap.extract 0 g }, ⟨A, c, hbk, ?_, ?_⟩, ⟨rfl, rfl, rfl, ?_, ?_⟩, ?_⟩
  · show (W.heap.extract 0 g).size ≤ g
    omega
  · exact (Kd.R_reads' (Kd.R_move (w1 := { W with heap := W.heap.extract 0 g }) ho (fun k hk => hget k hk))).2.2
  · show (W.heap.extract 0 g).size ≤ W.heap.size
    omega
  · intro k hk
    have hk' : k < g := by have : k < (W.heap.extract 0 g).size := hk; omega
    exact (hget k hk').symm
  · show base ≤ (W.heap.extract 0 g).size
    omega
set_option maxHeartbeats 800000 in
set_option maxRecDepth 100000 in
theorem bits_awake (w : World) : Calls Try.prog 40 #[] w fun e w' => e = .returned (.bool true) ∧ Below w.heap.size w w' := by
  go_enter Try.func40, Try.ntmps40
  go_wp2_with (first
    | (go_at_call 51; go_must (refine (bits_New_calls 10 _).mono ?_); rintro e w1 ⟨g, v, rfl, hbk, ho, hg, hb⟩; obtain ⟨A2, c2, rfl⟩ := Kd.R_slice ho; have HB1 := Aside0.mk hb; have OW := Aside0.mk (show OwnRow_ w1 w.heap.size g 10 [0, 0] from ⟨A2, c2, hbk, ho, hg⟩); clear hb hbk ho hg)
    | (go_at_call 53; go_must (refine (bits_Set_true g 9 10 [0, 0] w _ w.heap.size OW.out HB1.out (by decide) (by decide) (by decide) (by decide)).mono ?_); rintro e w2 ⟨rfl, hI, hB⟩; obtain ⟨w0, hI0, hB0, hs0⟩ := hI.view; have HB2 := Aside0.mk hB; have HI0 := Aside0.mk hI0; have HB0 := Aside0.mk hB0; have HS0 := Aside0.mk hs0; clear hI hB hI0 hB0 hs0)
    | (go_at_call 44; go_must (refine (bits_Row_Get.calls g 10 (setBit [0, 0] 9 true) 9 true 10 w0 _ HI0.out HB0.out (by decide +kernel)).mono ?_); rintro e w3 ⟨rfl, hI, hB, _⟩; have HI3 := Aside0.mk hI; have HB3 := Aside0.mk hB; clear hI hB)
    | (go_at_call 43; go_must (refine (bits_Row_Len.calls g 10 (setBit [0, 0] 9 true) 10 10 w0 _ HI3.out HB3.out rfl).mono ?_); rintro e w4 ⟨rfl, hI, hB, _⟩; have HB4 := Aside0.mk hB; clear hI hB))
  go_ret
  exact ⟨by simp, below_through HB2.out HB0.out HB4.out HS0.out⟩
/-- These bytes are those of a row of n bits. -/
def OfOk (n : Int) (b : List Int) : Prop := 0 ≤ n ∧ n ≤ 4096 ∧ (b.length : Int) = rowBytes n ∧ (n.tmod 8 = 0 ∨ shr .u8 (rd b ((b.length : Int) - 1)) (n.tmod 8) = 0)
theorem bits_Of_ok (n : Int) (A0 : Option Addr) (c0 : Nat) (b : List Int) (w : World) (hr0 : Kd.C (Kd.int .u8) w A0 b.length b) (hc0 : b.length ≤ c0) (h : OfOk n b) :
    Calls Try.prog 41 #[.int .i64 n, .slice A0 b.length c0] w fun e w' => ∃ g, e = .returned (.tuple #[.pointer (some ⟨g, 0, none⟩), .int .i64 0]) ∧ OwnRow_ w' w.heap.size g n b ∧ Below w.heap.size w w' := by
  by_cases h3 : n.tmod 8 = 0
  · refine (bits_Of_even n A0 c0 b w hr0 hc0 h.1 h.2.1 h.2.2.1 h3).mono ?_
    rintro e w' ⟨g, A, c, he, hbk, ho, hg, hb⟩
    exact ⟨g, he, ⟨A, c, hbk, ho, hg⟩, hb⟩
  · refine (bits_Of_odd n A0 c0 b w hr0 hc0 h.1 h.2.1 h.2.2.1 h3 (h.2.2.2.resolve_left h3)).mono ?_
    rintro e w' ⟨g, A, c, he, hbk, ho, hg, hb⟩
    exact ⟨g, he, ⟨A, c, hbk, ho, hg⟩, hb⟩
/-- What Of answers where the bytes are no row's. -/
def ofErr (n : Int) : Int := if n < 0 ∨ 4096 < n then 1 else 18
theorem bits_Of_bad (n : Int) (A0 : Option Addr) (c0 : Nat) (b : List Int) (w : World) (hr0 : Kd.C (Kd.int .u8) w A0 b.length b) (hc0 : b.length ≤ c0) (h : ¬ OfOk n b) :
    Calls Try.prog 41 #[.int .i64 n, .slice A0 b.length c0] w fun e w' => e = .returned (.tuple #[.pointer none, .int .i64 (ofErr n)]) ∧ Below w.heap.size w w' := by
  by_cases h0 : n < 0 ∨ 4096 < n
  · rw [show ofErr n = 1 from if_pos h0]; exact bits_Of_arg n A0 c0 b w h0
  · rw [show ofErr n = 18 from if_neg h0]
    by_cases h2 : (b.length : Int) = rowBytes n
    · have h3 : ¬ (n.tmod 8 = 0 ∨ shr .u8 (rd b ((b.length : Int) - 1)) (n.tmod 8) = 0) := fun h3 => h ⟨by omega, by omega, h2, h3⟩
      exact bits_Of_tail n A0 c0 b w hr0 hc0 (by omega) (by omega) h2 (fun x => h3 (.inl x)) (fun x => h3 (.inr x))
    · exact bits_Of_len n A0 c0 b w hr0 hc0 (by omega) (by omega) h2
/-- A row of the document's: a list of bits behind a pointer. -/
def RefRow (W : World) (base g : Nat) (l : List Bool) : Prop := ∃ A c, W.heap[g]? = some (.cells #[.slice A l.length c] 67 (0, 0)) ∧ Kd.R Kd.bool 4 W base (fun k => k < g) (.slice A l.length c) l
theorem info_bool : (Try.prog.info? 4).map (fun i => (i.zero, i.size, i.bytes)) = some (some (.bool false), 1, 1) := by kernel_rfl
set_option maxHeartbeats 800000 in
set_option maxRecDepth 100000 in
theorem ref_New_calls (n : Int) (w : World) : Calls Try.prog 52 #[.int .i64 n] w fun e w' => ∃ g, e = .returned (.pointer (some ⟨g, 0, none⟩)) ∧ RefRow w' w.heap.size g (List.replicate (clampRow n).toNat false) ∧ w.heap.size ≤ g ∧ Below w.heap.size w w' := by
  have hu := Try.underlying67
  obtain ⟨m, hm⟩ : ∃ m, m = clampRow n := ⟨_, rfl⟩
  have hm0 : 0 ≤ m := by rw [hm]; exact clampRow_0 n
  have hm1 : m ≤ 4096 := by rw [hm]; exact clampRow_1 n
  rw [← hm]
  go_enter Try.func52, Try.ntmps52
  have HM := Aside0.mk hm
  have HJ0 := Aside0.mk hm0
  have HJ1 := Aside0.mk hm1
  clear hm hm0 hm1
  go_wp2_with (first
    | ((with_reducible refine gate_dst (N := 6) rfl ?_); rw [show (if 4096 < if n < 0 then 0 else n then 4096 else if n < 0 then 0 else n) = m from HM.out.symm]; refine Kd.R_make Kd.bool _ 4 rfl (N := 6) rfl 65 _ _ rfl m rfl rfl Try.underlying65 (.bool false) 1 info_bool rfl (by decide) (by omega) false (ok := fun _ => True) (okp := fun _ => True) rfl (fun _ hk => hk) trivial HJ0.out (by have := HJ0.out; have := HJ1.out; omega) (Below.refl _ _) (Nat.le_refl _) ?_; intro v w1 ho hb hg_ hnew_; clear hg_ hnew_; obtain ⟨A2, c2, rfl⟩ := Kd.R_slice ho; have HO1 := Aside0.mk (Kd.R_mono (ok' := fun k => k < w1.heap.size) (Kd.R_bound ho) (fun k hk => hk.2.2.1)); have HB1 := Aside0.mk hb; clear ho hb)
    | ((with_reducible refine gate_dst (N := 8) rfl ?_); refine box_event ?hg (N := 8) ?hd (cs := #[.slice A2 (List.replicate m.toNat false).length c2]) (t := 67) ?hr ?_; (case hd => rfl); (case hg => rfl); (case hr => first | (go_simp; done) | (go_simp; rfl)); intro gb hg w2 hbox hb; have HB2 := Aside0.mk (below_step HB1.out hb); have BK := Aside0.mk hbox; have HO2 := Aside0.mk (Kd.R_below HO1.out hb); have HG := Aside0.mk hg; clear hb hbox hg))
  all_goals
    go_ret
    refine ⟨gb, (by first | rfl | simp), ⟨_, _, BK.out, ?_⟩, ?_, HB2.out⟩
    · have h := HO2.out
      rw [HG.out]
      exact h
    · rw [HG.out]
      exact HB1.out.size
theorem RefRow.below {W W1 : World} {base g : Nat} {l : List Bool} (h : RefRow W base g l) (hb : Below W.heap.size W W1) : RefRow W1 base g l := by
  obtain ⟨A, c, hbk, ho⟩ := h
  exact ⟨A, c, blk_below hbk hb, Kd.R_below ho hb⟩
/-- Bit i, false outside. -/
def getS (l : List Bool) (i : Int) : Bool := decide (0 ≤ i) && l.getD i.toNat false
/-- Bit k of a row. -/
def bitAt (l : List Bool) (k : Nat) : Bool := l.getD k false
/-- What the walks ask of a row: its cells. -/
theorem RefRow.open_ {W : World} {base g : Nat} {l : List Bool} (h : RefRow W base g l) : ∃ A c, W.cell? ⟨g, 0, none⟩ = some (.slice A l.length c) ∧ W.frozen? ⟨g, 0, none⟩ = false ∧ l.length ≤ c ∧ (0 < l.length → ∃ ga, A = some ⟨ga, 0, none⟩ ∧ base ≤ ga ∧ ga ≠ g ∧ ∀ k : Nat, k < l.length → W.cell? ⟨ga, k, none⟩ = some (.bool (bitAt l k)) ∧ W.frozen? ⟨ga, k, none⟩ = false) := by
  obtain ⟨A, c, hbk, ho⟩ := h
  refine ⟨A, c, (blk_cell hbk 0).trans rfl, blk_frozen hbk 0, (Kd.R_reads' ho).2.1, fun hp => ?_⟩
  obtain ⟨ga, ca, hform, gb, _⟩ := Kd.R_form ho hp
  injection hform with hA hln hcc
  subst hA
  refine ⟨ga, rfl, gb, fun e => absurd (ho.1 ga rfl) (by rw [e]; exact Nat.lt_irrefl _), fun k hk => ?_⟩
  have := Kd.R_cell false ho (k : Int) (by omega) (by omega)
  exact this
theorem getS_neg {l : List Bool} {i : Int} (h : i < 0) : getS l i = false := by unfold getS; rw [decide_eq_false (by omega)]; rfl
theorem getS_big {l : List Bool} {i : Int} (h : (l.length : Int) ≤ i) : getS l i = false := by
  unfold getS
  rw [List.getD_eq_getElem?_getD, List.getElem?_eq_none (by omega)]; simp
theorem getS_in {l : List Bool} {i : Int} (h : 0 ≤ i) : getS l i = bitAt l i.toNat := by unfold getS; rw [decide_eq_true h]; rfl
set_option maxRecDepth 100000 in
theorem ref_Get_calls (g : Nat) (l : List Bool) (i : Int) (base : Nat) (w : World) (hI : RefRow w base g l) :
    Calls Try.prog 55 #[.pointer (some ⟨g, 0, none⟩), .int .i64 i] w fun e w' => e = .returned (.bool (getS l i)) ∧ w = w' := by
  obtain ⟨A, c, hc0, hf0, hlc, hin⟩ := hI.open_
  have HIN := Aside0.mk hin
  clear hI hin
  by_cases h0 : 0 ≤ i
  · have d0 : decide (0 ≤ i) = true := decide_eq_true h0
    by_cases h1 : i < l.length
    · obtain ⟨ga, rfl, _, _, hcell⟩ := HIN.out (by omega)
      obtain ⟨k, rfl⟩ := Int.eq_ofNat_of_zero_le h0
      have hx := (hcell k (by omega)).1
      have d1 : decide ((k : Int) < (l.length : Int)) = true := decide_eq_true h1
      have d2 : decide (k < l.length) = true := decide_eq_true (by omega)
      have HV := Aside0.mk (getS_in (l := l) (i := (k : Int)) h0)
      clear hcell HIN
      go_enter Try.func55, Try.ntmps55
      go_wp2
      go_ret
      exact ⟨show Ending.returned (.bool (bitAt l k)) = _ by rw [HV.out, Int.toNat_natCast], rfl⟩
    · have d1 : decide (i < (l.length : Int)) = false := decide_eq_false h1
      have HV := Aside0.mk (getS_big (l := l) (i := i) (by omega))
      clear HIN
      go_enter Try.func55, Try.ntmps55
      go_wp2
      go_ret
      exact ⟨show Ending.returned (.bool false) = _ by rw [HV.out], rfl⟩
  · have d0 : decide (0 ≤ i) = false := decide_eq_false h0
    have HV := Aside0.mk (getS_neg (l := l) (i := i) (by omega))
    clear HIN
    go_enter Try.func55, Try.ntmps55
    go_wp2
    go_ret
    exact ⟨show Ending.returned (.bool false) = _ by rw [HV.out], rfl⟩
/-- How many bits are 1, of the first k. -/
def cntTo (l : List Bool) (k : Nat) : Int := ((l.take k).count true : Nat)
theorem cntTo_succ (l : List Bool) (k : Nat) (h : k < l.length) : cntTo l (k + 1) = cntTo l k + if bitAt l k = true then 1 else 0 := by
  unfold cntTo bitAt
  rw [List.take_succ_eq_append_getElem h, List.count_append, List.getD_eq_getElem?_getD, List.getElem?_eq_getElem h]
  cases l[k] <;> simp
theorem cntTo_le (l : List Bool) (k : Nat) : 0 ≤ cntTo l k ∧ cntTo l k ≤ l.length := by
  unfold cntTo
  have h1 := List.count_le_length (l := l.take k) (a := true)
  have h2 : (l.take k).length ≤ l.length := by rw [List.length_take]; omega
  omega
set_option maxHeartbeats 800000 in
set_option maxRecDepth 100000 in
theorem ref_Count_calls (g : Nat) (l : List Bool) (base : Nat) (w : World) (hI : RefRow w base g l) (hl : l.length ≤ 4096) :
    Calls Try.prog 60 #[.pointer (some ⟨g, 0, none⟩)] w fun e w' => e = .returned (.int .i64 (cntTo l l.length)) ∧ w = w' := by
  obtain ⟨A, c, hc0, hf0, hlc, hin⟩ := hI.open_
  have HIN := Aside0.mk hin
  clear hI hin
  go_enter Try.func60, Try.ntmps60
  go_wp2
  go_loop [3, 10] (fun t i => ∃ k : Nat, k ≤ l.length ∧ i = .int .i64 k ∧ t = .int .i64 (cntTo l k)) (fun _ i => l.length - (intOf i).toNat)
  case atStart => exact ⟨0, Nat.zero_le _, rfl, rfl⟩
  case round =>
    obtain ⟨k, hk, rfl, rfl⟩ := hrel
    have hb := cntTo_le l k
    by_cases hlt : k < l.length
    · obtain ⟨ga, rfl, _, _, hcell⟩ := HIN.out (by omega)
      have hx := (hcell k (by omega)).1
      have HS := Aside0.mk (cntTo_succ l k hlt)
      clear hcell
      by_cases hv : bitAt l k = true
      all_goals
        go_wp2
        go_round
        case rel => exact ⟨k + 1, by omega, by go_num, by first | (rw [HS.out, if_pos ‹_›]; done) | (rw [HS.out, if_neg ‹_›, Int.add_zero]; done)⟩
        case measure => simp [intOf]; omega
    · obtain rfl : k = l.length := by omega
      go_wp2
      go_ret
      exact ⟨rfl, rfl⟩
/-- The first 0 from place g on, round and round. -/
def firstFrom (l : List Bool) (g : Nat) : Nat → Nat → Int
  | 0, _ => -1
  | d + 1, k => if bitAt l ((g + k) % l.length) = true then firstFrom l g d (k + 1) else (((g + k) % l.length : Nat) : Int)
def goalAt (l : List Bool) (goal : Int) : Nat := if 0 ≤ goal ∧ goal < l.length then goal.toNat else 0
def firstS (l : List Bool) (goal : Int) : Int := firstFrom l (goalAt l goal) l.length 0
theorem firstFrom_on (l : List Bool) (g k : Nat) (h : k < l.length) (hb : bitAt l ((g + k) % l.length) = true) : firstFrom l g (l.length - k) k = firstFrom l g (l.length - (k + 1)) (k + 1) := by
  have e : l.length - k = (l.length - (k + 1)) + 1 := by omega
  rw [e, firstFrom, if_pos hb]
theorem firstFrom_here (l : List Bool) (g k : Nat) (h : k < l.length) (hb : ¬ bitAt l ((g + k) % l.length) = true) : firstFrom l g (l.length - k) k = (((g + k) % l.length : Nat) : Int) := by
  have e : l.length - k = (l.length - (k + 1)) + 1 := by omega
  rw [e, firstFrom, if_neg hb]
theorem firstFrom_end (l : List Bool) (g : Nat) : firstFrom l g (l.length - l.length) l.length = -1 := by rw [Nat.sub_self]; rfl
theorem tmod_nat (a n : Nat) : ((a : Int)).tmod (n : Int) = ((a % n : Nat) : Int) := by rw [Int.tmod_eq_emod_of_nonneg (by omega)]; omega
set_option maxHeartbeats 800000 in
set_option maxRecDepth 100000 in
theorem ref_First_calls (gp : Nat) (l : List Bool) (goal : Int) (base : Nat) (w : World) (hI : RefRow w base gp l) (hl : l.length ≤ 4096) :
    Calls Try.prog 49 #[.pointer (some ⟨gp, 0, none⟩), .int .i64 goal] w fun e w' => e = .returned (.int .i64 (firstS l goal)) ∧ w = w' := by
  obtain ⟨A, c, hc0, hf0, hlc, hin⟩ := hI.open_
  have HIN := Aside0.mk hin
  clear hI hin
  obtain ⟨g, hg⟩ : ∃ g, goalAt l goal = g := ⟨_, rfl⟩
  have hfs : firstS l goal = firstFrom l g (l.length - 0) 0 := by unfold firstS; rw [hg]; rfl
  have HFS := Aside0.mk hfs
  clear hfs
  by_cases h0 : 0 ≤ goal
  · have d0 : decide (goal < 0) = false := decide_eq_false (by omega)
    by_cases h1 : goal < l.length
    · have d1 : decide ((l.length : Int) ≤ goal) = false := decide_eq_false (by omega)
      have hgl : g < l.length := by unfold goalAt at hg; rw [if_pos ⟨h0, h1⟩] at hg; omega
      obtain rfl : goal = (g : Int) := by unfold goalAt at hg; rw [if_pos ⟨h0, h1⟩] at hg; omega
      clear hg
      go_enter Try.func49, Try.ntmps49
      go_wp2
      go_loop [23] (fun i => ∃ k : Nat, k ≤ l.length ∧ i = .int .i64 k ∧ Aside0 (firstS l (g : Int) = firstFrom l g (l.length - k) k)) (fun i => l.length - (intOf i).toNat)
      case atStart => exact ⟨0, Nat.zero_le _, rfl, HFS⟩
      case round =>
        obtain ⟨k, hk, rfl, HF⟩ := hrel
        by_cases hlt : k < l.length
        · obtain ⟨m, hm⟩ : ∃ m, (g + k) % l.length = m := ⟨_, rfl⟩
          have hml : m < l.length := by rw [← hm]; exact Nat.mod_lt _ (by omega)
          obtain ⟨ga, rfl, _, _, hcell⟩ := HIN.out (by omega)
          have hx := (hcell m hml).1
          have ht : ((g : Int) + (k : Int)).tmod (l.length : Int) = (m : Int) := by rw [← hm, ← tmod_nat]; rfl
          have hz : ((l.length : Int) == 0) = false := by rw [beq_eq_false_iff_ne]; omega
          have HM := Aside0.mk hm
          clear hcell hm
          by_cases hv : bitAt l m = true
          · have HN := Aside0.mk (HF.out.trans (firstFrom_on l g k hlt (by rw [HM.out]; exact hv)))
            go_wp2
            go_round
            case rel => exact ⟨k + 1, by omega, by go_num, HN⟩
            case measure => simp [intOf]; omega
          · have HN := Aside0.mk (HF.out.trans (firstFrom_here l g k hlt (by rw [HM.out]; exact hv)))
            have hv' : bitAt l m = false := Bool.eq_false_iff.2 hv
            go_wp2
            go_ret
            exact ⟨show Ending.returned (.int .i64 (m : Int)) = _ by rw [HN.out, HM.out], rfl⟩
        · obtain rfl : k = l.length := by omega
          have HN := Aside0.mk (HF.out.trans (firstFrom_end l g))
          go_wp2
          go_ret
          exact ⟨show Ending.returned (.int .i64 (-1)) = _ by rw [HN.out], rfl⟩
    · have d1 : decide ((l.length : Int) ≤ goal) = true := decide_eq_true (by omega)
      obtain rfl : g = 0 := by unfold goalAt at hg; rw [if_neg (by omega)] at hg; exact hg.symm
      clear hg
      go_enter Try.func49, Try.ntmps49
      go_wp2
      go_loop [23] (fun i => ∃ k : Nat, k ≤ l.length ∧ i = .int .i64 k ∧ Aside0 (firstS l goal = firstFrom l 0 (l.length - k) k)) (fun i => l.length - (intOf i).toNat)
      case atStart => exact ⟨0, Nat.zero_le _, rfl, HFS⟩
      case round =>
        obtain ⟨k, hk, rfl, HF⟩ := hrel
        by_cases hlt : k < l.length
        · obtain ⟨m, hm⟩ : ∃ m, (0 + k) % l.length = m := ⟨_, rfl⟩
          have hml : m < l.length := by rw [← hm]; exact Nat.mod_lt _ (by omega)
          obtain ⟨ga, rfl, _, _, hcell⟩ := HIN.out (by omega)
          have hx := (hcell m hml).1
          have ht : ((k : Int)).tmod (l.length : Int) = (m : Int) := by rw [← hm, Nat.zero_add, ← tmod_nat]
          have hz : ((l.length : Int) == 0) = false := by rw [beq_eq_false_iff_ne]; omega
          have HM := Aside0.mk hm
          clear hcell hm
          by_cases hv : bitAt l m = true
          · have HN := Aside0.mk (HF.out.trans (firstFrom_on l 0 k hlt (by rw [HM.out]; exact hv)))
            go_wp2
            go_round
            case rel => exact ⟨k + 1, by omega, by go_num, HN⟩
            case measure => simp [intOf]; omega
          · have HN := Aside0.mk (HF.out.trans (firstFrom_here l 0 k hlt (by rw [HM.out]; exact hv)))
            have hv' : bitAt l m = false := Bool.eq_false_iff.2 hv
            go_wp2
            go_ret
            exact ⟨show Ending.returned (.int .i64 (m : Int)) = _ by rw [HN.out, HM.out], rfl⟩
        · obtain rfl : k = l.length := by omega
          have HN := Aside0.mk (HF.out.trans (firstFrom_end l 0))
          go_wp2
          go_ret
          exact ⟨show Ending.returned (.int .i64 (-1)) = _ by rw [HN.out], rfl⟩
  · have d0 : decide (goal < 0) = true := decide_eq_true (by omega)
    obtain rfl : g = 0 := by unfold goalAt at hg; rw [if_neg (by omega)] at hg; exact hg.symm
    clear hg
    go_enter Try.func49, Try.ntmps49
    go_wp2
    go_loop [23] (fun i => ∃ k : Nat, k ≤ l.length ∧ i = .int .i64 k ∧ Aside0 (firstS l goal = firstFrom l 0 (l.length - k) k)) (fun i => l.length - (intOf i).toNat)
    case atStart => exact ⟨0, Nat.zero_le _, rfl, HFS⟩
    case round =>
      obtain ⟨k, hk, rfl, HF⟩ := hrel
      by_cases hlt : k < l.length
      · obtain ⟨m, hm⟩ : ∃ m, (0 + k) % l.length = m := ⟨_, rfl⟩
        have hml : m < l.length := by rw [← hm]; exact Nat.mod_lt _ (by omega)
        obtain ⟨ga, rfl, _, _, hcell⟩ := HIN.out (by omega)
        have hx := (hcell m hml).1
        have ht : ((k : Int)).tmod (l.length : Int) = (m : Int) := by rw [← hm, Nat.zero_add, ← tmod_nat]
        have hz : ((l.length : Int) == 0) = false := by rw [beq_eq_false_iff_ne]; omega
        have HM := Aside0.mk hm
        clear hcell hm
        by_cases hv : bitAt l m = true
        · have HN := Aside0.mk (HF.out.trans (firstFrom_on l 0 k hlt (by rw [HM.out]; exact hv)))
          go_wp2
          go_round
          case rel => exact ⟨k + 1, by omega, by go_num, HN⟩
          case measure => simp [intOf]; omega
        · have HN := Aside0.mk (HF.out.trans (firstFrom_here l 0 k hlt (by rw [HM.out]; exact hv)))
          have hv' : bitAt l m = false := Bool.eq_false_iff.2 hv
          go_wp2
          go_ret
          exact ⟨show Ending.returned (.int .i64 (m : Int)) = _ by rw [HN.out, HM.out], rfl⟩
      · obtain rfl : k = l.length := by omega
        have HN := Aside0.mk (HF.out.trans (firstFrom_end l 0))
        go_wp2
        go_ret
        exact ⟨show Ending.returned (.int .i64 (-1)) = _ by rw [HN.out], rfl⟩
/-- Where so many 0s side by side begin first: from place i on, f of them stand ahead of it. -/
def runFrom (l : List Bool) (n : Nat) : Nat → Nat → Nat → Int
  | 0, _, _ => -1
  | d + 1, i, f => if (if bitAt l i = true then 0 else f + 1) = n then (i : Int) - n + 1 else runFrom l n d (i + 1) (if bitAt l i = true then 0 else f + 1)
def runS (l : List Bool) (n : Int) : Int := if 1 ≤ n ∧ n ≤ l.length then runFrom l n.toNat l.length 0 0 else -1
theorem runFrom_step (l : List Bool) (n k f f' : Nat) (h : k < l.length) (hf : (if bitAt l k = true then 0 else f + 1) = f') (hn : f' ≠ n) : runFrom l n (l.length - k) k f = runFrom l n (l.length - (k + 1)) (k + 1) f' := by
  have e : l.length - k = (l.length - (k + 1)) + 1 := by omega
  rw [e, runFrom, hf, if_neg hn]
theorem runFrom_here (l : List Bool) (n k f : Nat) (h : k < l.length) (hf : (if bitAt l k = true then 0 else f + 1) = n) : runFrom l n (l.length - k) k f = (k : Int) - n + 1 := by
  have e : l.length - k = (l.length - (k + 1)) + 1 := by omega
  rw [e, runFrom, hf, if_pos rfl]
theorem runFrom_end (l : List Bool) (n f : Nat) : runFrom l n (l.length - l.length) l.length f = -1 := by rw [Nat.sub_self]; rfl
set_option maxHeartbeats 800000 in
set_option maxRecDepth 100000 in
theorem ref_Run_calls (gp : Nat) (l : List Bool) (n : Int) (base : Nat) (w : World) (hI : RefRow w base gp l) (hl : l.length ≤ 4096) :
    Calls Try.prog 50 #[.pointer (some ⟨gp, 0, none⟩), .int .i64 n] w fun e w' => e = .returned (.int .i64 (runS l n)) ∧ w = w' := by
  obtain ⟨A, c, hc0, hf0, hlc, hin⟩ := hI.open_
  have HIN := Aside0.mk hin
  clear hI hin
  by_cases h0 : 1 ≤ n
  · have d0 : decide (n < 1) = false := decide_eq_false (by omega)
    by_cases h1 : n ≤ l.length
    · have d1 : decide ((l.length : Int) < n) = false := decide_eq_false (by omega)
      obtain ⟨n, rfl⟩ := Int.eq_ofNat_of_zero_le (show 0 ≤ n by omega)
      have HFS : Aside0 (runS l (n : Int) = runFrom l n (l.length - 0) 0 0) := ⟨by unfold runS; rw [if_pos ⟨h0, h1⟩]; rfl⟩
      go_enter Try.func50, Try.ntmps50
      go_wp2
      go_loop [5, 23] (fun t i => ∃ k f : Nat, k ≤ l.length ∧ f ≤ k ∧ i = .int .i64 k ∧ t = .int .i64 f ∧ Aside0 (runS l (n : Int) = runFrom l n (l.length - k) k f)) (fun _ i => l.length - (intOf i).toNat)
      case atStart => exact ⟨0, 0, Nat.zero_le _, Nat.zero_le _, rfl, rfl, HFS⟩
      case round =>
        obtain ⟨k, f, hk, hfk, rfl, rfl, HF⟩ := hrel
        by_cases hlt : k < l.length
        · obtain ⟨ga, rfl, _, _, hcell⟩ := HIN.out (by omega)
          have hx := (hcell k hlt).1
          clear hcell
          by_cases hv : bitAt l k = true
          · have q : ((0 : Int) == (n : Int)) = false := by rw [beq_eq_false_iff_ne]; omega
            have HN := Aside0.mk (HF.out.trans (runFrom_step l n k f 0 hlt (if_pos hv) (by omega)))
            go_wp2
            go_round
            case rel => exact ⟨k + 1, 0, by omega, by omega, by go_num, rfl, HN⟩
            case measure => simp [intOf]; omega
          · have HV := Aside0.mk hv
            have hv' : bitAt l k = false := Bool.eq_false_iff.2 hv
            clear hv
            by_cases hq : f + 1 = n
            · have HN := Aside0.mk (HF.out.trans (runFrom_here l n k f hlt (by rw [if_neg HV.out, hq])))
              have q : ((f : Int) + 1 == (n : Int)) = true := by rw [beq_iff_eq]; omega
              clear hq
              go_wp2
              go_ret
              exact ⟨show Ending.returned (.int .i64 _) = _ by rw [HN.out], rfl⟩
            · have HN := Aside0.mk (HF.out.trans (runFrom_step l n k f (f + 1) hlt (if_neg HV.out) hq))
              have q : ((f : Int) + 1 == (n : Int)) = false := by rw [beq_eq_false_iff_ne]; omega
              clear hq
              go_wp2
              go_round
              case rel => exact ⟨k + 1, f + 1, by omega, by omega, by go_num, by go_num, HN⟩
              case measure => simp [intOf]; omega
        · obtain rfl : k = l.length := by omega
          have HN := Aside0.mk (HF.out.trans (runFrom_end l n f))
          go_wp2
          go_ret
          exact ⟨show Ending.returned (.int .i64 (-1)) = _ by rw [HN.out], rfl⟩
    · have d1 : decide ((l.length : Int) < n) = true := decide_eq_true (by omega)
      have HN : Aside0 (runS l n = -1) := ⟨if_neg (by omega)⟩
      go_enter Try.func50, Try.ntmps50
      go_wp2
      go_ret
      exact ⟨show Ending.returned (.int .i64 (-1)) = _ by rw [HN.out], rfl⟩
  · have d0 : decide (n < 1) = true := decide_eq_true (by omega)
    have HN : Aside0 (runS l n = -1) := ⟨if_neg (by omega)⟩
    go_enter Try.func50, Try.ntmps50
    go_wp2
    go_ret
    exact ⟨show Ending.returned (.int .i64 (-1)) = _ by rw [HN.out], rfl⟩
/-- What a store into a row of this type leaves: every block of another type. -/
def TyKeep (t0 : TypeId) (W W' : World) : Prop := W.heap.size ≤ W'.heap.size ∧ ∀ (k : Nat) (cells : Array Value) (t : TypeId), W.heap[k]? = some (Obj.cells cells t (0, 0)) → t ≠ t0 → W'.heap[k]? = W.heap[k]?
theorem TyKeep.refl (t0 : TypeId) (W : World) : TyKeep t0 W W := ⟨Nat.le_refl _, fun _ _ _ _ _ => rfl⟩
theorem TyKeep.set_ {t0 : TypeId} {W : World} {g : Nat} {cs : Array Value} (h : W.heap[g]? = some (.cells cs t0 (0, 0))) (j : Nat) (u : Value) : TyKeep t0 W (W.setCell ⟨g, j, none⟩ u) := by
  refine ⟨by simp [World.setCell], fun k cells t hk ht => Below.heap_setCell W _ u k ?_⟩
  rintro rfl
  have hk := h.symm.trans hk
  injection hk with hk
  injection hk with _ h2
  exact ht h2.symm
theorem R_tykeep {α : Type} {d : Kd α} {e : Nat} {W W' : World} {base : Nat} {ok : Nat → Prop} {v : Value} {xs : List α} {t0 : TypeId} (h : d.R e W base ok v xs) (hk : TyKeep t0 W W') (ht : ∀ q, q ∈ e :: d.E → q ≠ t0) : d.R e W' base ok v xs :=
  Kd.R_mono (Kd.R_move (Kd.R_bound h) (fun k hb => by
    obtain ⟨_, _, _, q, hq, cells, hc⟩ := hb
    exact hk.2 k cells q hc (ht q hq))) (fun k hb => hb.1)
theorem RefRow.tykeep {W W1 : World} {base g : Nat} {l : List Bool} (h : RefRow W base g l) (hk : TyKeep 5 W W1) : RefRow W1 base g l := by
  obtain ⟨A, c, hbk, ho⟩ := h
  exact ⟨A, c, (hk.2 g _ _ hbk (by decide)).trans hbk, R_tykeep ho hk (by decide)⟩
theorem OwnRow_.tykeep {W W1 : World} {base g : Nat} {n : Int} {b : List Int} (h : OwnRow_ W base g n b) (hk : TyKeep 4 W W1) : OwnRow_ W1 base g n b := by
  obtain ⟨A, c, hbk, ho, hg⟩ := h
  exact ⟨A, c, (hk.2 g _ _ hbk (by decide)).trans hbk, R_tykeep ho hk (by decide), hg⟩
set_option maxHeartbeats 800000 in
set_option maxRecDepth 100000 in
theorem ref_Set_in (gp : Nat) (l : List Bool) (i : Nat) (on : Bool) (base : Nat) (w0 w : World) (hI : RefRow w base gp l) (hB : Below base w0 w) (h : i < l.length) :
    Calls Try.prog 54 #[.pointer (some ⟨gp, 0, none⟩), .int .i64 i, .bool on] w fun e w' => e = .returned (.int .i64 0) ∧ RefRow w' base gp (l.set i on) ∧ Below base w0 w' ∧ TyKeep 4 w w' := by
  obtain ⟨A, c, hbk, ho⟩ := hI
  obtain ⟨ga, ca, hform, gb, _⟩ := Kd.R_form ho (by omega)
  injection hform with hA hln hcc
  subst hA
  clear hln hcc
  have HNE := Aside0.mk (show gp ≠ ga from fun e => absurd (ho.1 ga rfl) (by rw [e]; exact Nat.lt_irrefl _))
  obtain ⟨cells, hty⟩ := Kd.R_typed ho ga rfl
  have TK := Aside0.mk (TyKeep.set_ hty i (.bool on))
  have BK := Aside0.mk hbk
  have HB := Aside0.mk hB
  have GB := Aside0.mk gb
  have hc0 : w.cell? ⟨gp, 0, none⟩ = some (.slice (some ⟨ga, 0, none⟩) l.length c) := (blk_cell BK.out 0).trans rfl
  have hf0 := blk_frozen BK.out 0
  have hx := Kd.R_cell false ho (i : Int) (by omega) (by omega)
  have hx1 : w.cell? ⟨ga, i, none⟩ = some (.bool (bitAt l i)) := hx.1
  have hx2 : w.frozen? ⟨ga, i, none⟩ = false := hx.2
  have HP : Aside0 (Kd.R Kd.bool 4 (w.setCell ⟨ga, i, none⟩ (.bool on)) base (fun k => k < gp) (.slice (some ⟨ga, 0, none⟩) l.length c) (l.set i on)) := ⟨(Kd.R_putg ho (i : Int) on).1⟩
  have d1 : decide ((i : Int) < 0) = false := decide_eq_false (by omega)
  have d2 : decide ((l.length : Int) ≤ (i : Int)) = false := decide_eq_false (by omega)
  have d3 : decide (l.length ≤ i) = false := decide_eq_false (by omega)
  clear hbk ho hB gb hx hty
  go_enter Try.func54, Try.ntmps54
  go_wp2
  go_ret
  refine ⟨rfl, ⟨some ⟨ga, 0, none⟩, c, ?_, ?_⟩, HB.out.setCell GB.out _, TK.out⟩
  · rw [List.length_set]; exact blk_far BK.out HNE.out _
  · rw [List.length_set]; exact HP.out
set_option maxRecDepth 100000 in
theorem ref_Set_out (gp : Nat) (l : List Bool) (i : Int) (on : Bool) (base : Nat) (w : World) (hI : RefRow w base gp l) (h : i < 0 ∨ (l.length : Int) ≤ i) :
    Calls Try.prog 54 #[.pointer (some ⟨gp, 0, none⟩), .int .i64 i, .bool on] w fun e w' => e = .returned (.int .i64 1) ∧ w = w' := by
  obtain ⟨A, c, hc0, hf0, hlc, hin⟩ := hI.open_
  clear hI hin
  by_cases h0 : i < 0
  · have d1 : decide (i < 0) = true := decide_eq_true h0
    go_enter Try.func54, Try.ntmps54
    go_wp2
    go_ret
    exact ⟨rfl, rfl⟩
  · have d1 : decide (i < 0) = false := decide_eq_false h0
    have d2 : decide ((l.length : Int) ≤ i) = true := decide_eq_true (by omega)
    go_enter Try.func54, Try.ntmps54
    go_wp2
    go_ret
    exact ⟨rfl, rfl⟩
/-- The bytes of the first k bits, the others 0. -/
def packTo (l : List Bool) (k : Nat) : List Int := Rowl.pack ((l.take k) ++ List.replicate (l.length - k) false)
theorem packTo_len (l : List Bool) (k : Nat) (h : k ≤ l.length) : (packTo l k).length = (l.length + 7) / 8 := by
  unfold packTo; rw [Rowl.pack_length, List.length_append, List.length_take, List.length_replicate]
  congr 1; omega
theorem getD_replicate (n i : Nat) : (List.replicate n false).getD i false = false := by
  rw [List.getD_eq_getElem?_getD, List.getElem?_replicate]; by_cases h : i < n <;> simp [h]
theorem packTo_zero (l : List Bool) : packTo l 0 = List.replicate ((l.length + 7) / 8) 0 := by
  unfold packTo
  rw [List.take_zero, List.nil_append, Nat.sub_zero]
  unfold Rowl.pack
  rw [List.length_replicate]
  rw [List.eq_replicate_iff]
  refine ⟨by simp, fun b hb => ?_⟩
  obtain ⟨j, _, rfl⟩ := List.mem_map.1 hb
  unfold Rowl.by8
  simp only [getD_replicate]
  rfl
theorem packTo_full (l : List Bool) : packTo l l.length = Rowl.pack l := by
  unfold packTo; rw [List.take_length, Nat.sub_self, List.replicate_zero, List.append_nil]
theorem packTo_off (l : List Bool) (k : Nat) (h : k < l.length) (hb : bitAt l k = false) : packTo l (k + 1) = packTo l k := by
  unfold packTo
  congr 1
  have e : l.length - k = (l.length - (k + 1)) + 1 := by omega
  have hk : l[k] = false := by unfold bitAt at hb; rw [List.getD_eq_getElem?_getD, List.getElem?_eq_getElem h] at hb; exact hb
  rw [List.take_succ_eq_append_getElem h, e, List.replicate_succ, List.append_assoc, hk]; rfl
theorem packTo_on (l : List Bool) (k : Nat) (h : k < l.length) (hb : bitAt l k = true) : packTo l (k + 1) = (packTo l k).set (k / 8) (Go.bits .or .u8 (rd (packTo l k) ((k / 8 : Nat) : Int)) (shl .u8 1 ((k % 8 : Nat) : Int))) := by
  have hl : ((l.take k) ++ List.replicate (l.length - k) false).length = l.length := by rw [List.length_append, List.length_take, List.length_replicate]; omega
  unfold packTo
  rw [Rowl.pack_or _ k (by rw [hl]; exact h)]
  congr 1
  have e : l.length - k = (l.length - (k + 1)) + 1 := by omega
  have hk : l[k] = true := by unfold bitAt at hb; rw [List.getD_eq_getElem?_getD, List.getElem?_eq_getElem h] at hb; exact hb
  rw [List.take_succ_eq_append_getElem h, hk, e, List.replicate_succ, List.append_assoc]
  rw [List.set_append_right _ _ (by rw [List.length_take]; omega)]
  congr 1
  rw [List.length_take, show k - min k l.length = 0 by omega]; rfl
theorem row_len (l : List Bool) (h : l.length ≤ 4096) : rowBytes (l.length : Int) = (((l.length + 7) / 8 : Nat) : Int) := by
  unfold rowBytes; rw [Int.tdiv_eq_ediv_of_nonneg (by omega)]; omega
set_option maxHeartbeats 1600000 in
set_option maxRecDepth 100000 in
theorem ref_Bytes_calls (gp : Nat) (l : List Bool) (base : Nat) (w : World) (hI : RefRow w base gp l) (hl : l.length ≤ 4096) :
    Calls Try.prog 58 #[.pointer (some ⟨gp, 0, none⟩)] w fun e w' => ∃ v, e = .returned v ∧ Kd.R (Kd.int .u8) 5 w' w.heap.size (fun _ => True) v (Rowl.pack l) ∧ Below w.heap.size w w' := by
  have HI := Aside0.mk hI
  obtain ⟨A, c, hc0, hf0, hlc, hin⟩ := hI.open_
  have HIN := Aside0.mk hin
  have info5 : (Try.prog.info? 5).map (fun i => (i.zero, i.size, i.bytes)) = some (some (.int .u8 0), 1, 1) := by kernel_rfl
  clear hI hin
  obtain ⟨j, hj⟩ : ∃ j : Nat, j = (l.length + 7) / 8 := ⟨_, rfl⟩
  have hj1 : j ≤ 512 := by omega
  have e3 : ((l.length : Int) + 7).tdiv 8 = (j : Int) := by rw [Int.tdiv_eq_ediv_of_nonneg (by omega)]; omega
  have HZ := Aside0.mk (packTo_zero l)
  rw [← hj] at HZ
  have HJ := Aside0.mk hj
  clear hj
  go_enter Try.func58, Try.ntmps58
  go_wp2_with (first
    | ((with_reducible refine gate_dst (N := 12) rfl ?_); go_must (refine Kd.R_make (Kd.int .u8) _ 5 rfl (N := 12) rfl 28 _ _ rfl (j : Int) rfl rfl Try.underlying28 (.int .u8 0) 1 info5 rfl (by decide) (by omega) 0 (ok := fun _ => True) (okp := fun _ => True) rfl (fun _ hk => hk) trivial (by omega) (by omega) (Below.refl _ _) (Nat.le_refl _) ?_); intro v w1 ho hb hg_ hnew_; clear hg_ hnew_; obtain ⟨A2, c2, rfl⟩ := Kd.R_slice ho; rw [List.length_replicate, Int.toNat_natCast] at ho; have HO1 := Aside0.mk ho; have HB1 := Aside0.mk hb; replace hc0 := pw_cell_below hb hc0; have hi1 := Aside0.mk (HI.out.below hb); clear ho hb HI HIN))
  go_loopw [18] (fun i wr => ∃ k : Nat, k ≤ l.length ∧ i = .int .i64 k ∧ Aside0 (Kd.R (Kd.int .u8) 5 wr w.heap.size (fun _ => True) (.slice A2 j c2) (packTo l k)) ∧ Aside0 (Below w.heap.size w wr) ∧ Aside0 (RefRow wr base gp l)) (fun i _ => l.length - (intOf i).toNat)
  case atStart => exact ⟨0, Nat.zero_le _, rfl, by rw [HZ.out]; exact HO1, HB1, hi1⟩
  case round =>
    obtain ⟨k, hk, rfl, HO, HB, HI⟩ := hrel
    obtain ⟨A, c, hc0, hf0, hlc, hin⟩ := HI.out.open_
    have HIN := Aside0.mk hin
    clear hin
    by_cases hlt : k < l.length
    · obtain ⟨ga, rfl, _, _, hcell⟩ := HIN.out (by omega)
      have hx := (hcell k hlt).1
      clear hcell HIN
      by_cases hv : bitAt l k = true
      · have HS := Aside0.mk (packTo_on l k hlt hv)
        obtain ⟨q, hq⟩ : ∃ q, k / 8 = q := ⟨_, rfl⟩
        obtain ⟨tm, htm⟩ : ∃ tm, k % 8 = tm := ⟨_, rfl⟩
        have hqj : q < j := by have := HJ.out; omega
        have hpl : (packTo l k).length = j := by rw [packTo_len l k hk, HJ.out]
        have ht8 : tm < 8 := by omega
        rw [hq, htm] at HS
        obtain ⟨ga2, ca2, hform, gb2, _⟩ := Kd.R_form HO.out (by omega)
        injection hform with hA hln hcc
        subst hA
        clear hln hcc
        have hy := Kd.R_celln 0 HO.out (q : Int) (by omega) (by omega)
        have hy1 : wr.cell? ⟨ga2, q, none⟩ = some (.int .u8 (rd (packTo l k) (q : Int))) := hy.1
        have hy2 : wr.frozen? ⟨ga2, q, none⟩ = false := hy.2
        obtain ⟨sv, hsv⟩ : ∃ sv, shl .u8 1 (tm : Int) = sv := ⟨_, rfl⟩
        have e6 : (2 : Int) ^ min ((tm : Int)).toNat 8 % 256 = sv := by rw [← hsv]; unfold shl; rw [IntKind.wrap_u8, Int.one_mul]; rfl
        have e61 : IntKind.u8.wrap ((2 : Int) ^ min tm 8) = sv := by rw [← hsv]; unfold shl; rw [Int.one_mul]; rfl
        rw [hsv] at HS
        have q1 : ((k : Int)).tdiv 8 = (q : Int) := by rw [Int.tdiv_eq_ediv_of_nonneg (by omega)]; omega
        have q2 : ((k : Int)).tmod 8 = (tm : Int) := by rw [Int.tmod_eq_emod_of_nonneg (by omega)]; omega
        have p4 : decide (0 ≤ (tm : Int)) = true := decide_eq_true (by omega)
        have q5 : IntKind.i64.wrap (q : Int) = (q : Int) := by rw [i64_w]; unfold wrap64; omega
        obtain ⟨y, hy0⟩ : ∃ y, rd (packTo l k) (q : Int) = y := ⟨_, rfl⟩
        rw [hy0] at hy1 HS
        have HP := Aside0.mk (Kd.R_putg HO.out (q : Int) (Go.bits .or .u8 y sv)).1
        have GB := Aside0.mk gb2
        obtain ⟨cells, hty⟩ := Kd.R_typed HO.out ga2 rfl
        have HTK := Aside0.mk (TyKeep.set_ hty q (.int .u8 (Go.bits .or .u8 y sv)))
        clear hty
        have hqll : (q : Int) < (j : Int) := by omega
        have HQ := Aside0.mk hq
        have HT := Aside0.mk htm
        have HSV := Aside0.mk hsv
        clear hy hq htm hsv hy0 gb2 hpl
        go_upto_region 6 with (fail)
        go_region
        go_wp2
        have esv : (2 : Int) ^ tm % 256 = sv := by rw [← HSV.out]; unfold shl; rw [Int.toNat_natCast, Nat.min_eq_left (by simp [IntKind.bits]; omega), IntKind.wrap_u8, Int.one_mul]
        rw [esv]
        go_roundw
        case rel => exact ⟨k + 1, by omega, by go_num, ⟨by rw [HS.out]; exact Kd.R_drew HP.out⟩, ⟨(HB.out.setCell GB.out _).drew⟩, ⟨(HI.out.tykeep HTK.out).below (below_drew (Below.refl _ _))⟩⟩
        case measure => simp [intOf]; omega
      · have HS := Aside0.mk (packTo_off l k hlt (Bool.eq_false_iff.2 hv))
        go_wp2
        go_roundw
        case rel => exact ⟨k + 1, by omega, by go_num, by rw [HS.out]; exact HO, HB, HI⟩
        case measure => simp [intOf]; omega
    · obtain rfl : k = l.length := by omega
      have HF := Aside0.mk (packTo_full l)
      go_wp2
      go_ret
      exact ⟨_, rfl, by have h := HO.out; rw [HF.out] at h; exact h, HB.out⟩
/-- Bit i of bytes. -/
def bitOf (b : List Int) (i : Nat) : Bool := (rd b ((i / 8 : Nat) : Int)).toNat.testBit (i % 8)
/-- The row of n bits, the first k as these bytes tell. -/
def rowTo (n : Nat) (b : List Int) (k : Nat) : List Bool := (Rowl.unpack n b).take k ++ List.replicate (n - k) false
theorem rowTo_len (n : Nat) (b : List Int) (k : Nat) : (rowTo n b k).length = n := by
  unfold rowTo; rw [List.length_append, List.length_take, Rowl.unpack_length, List.length_replicate]; omega
theorem rowTo_zero (n : Nat) (b : List Int) : rowTo n b 0 = List.replicate n false := by unfold rowTo; rw [List.take_zero, List.nil_append, Nat.sub_zero]
theorem rowTo_full (n : Nat) (b : List Int) (k : Nat) (h : n ≤ k) : rowTo n b k = Rowl.unpack n b := by
  unfold rowTo; rw [List.take_of_length_le (by rw [Rowl.unpack_length]; exact h), show n - k = 0 by omega, List.replicate_zero, List.append_nil]
theorem rowTo_step (n : Nat) (b : List Int) (k : Nat) (h : k < n) : rowTo n b (k + 1) = (rowTo n b k).set k (bitOf b k) := by
  have hk : k < (Rowl.unpack n b).length := by rw [Rowl.unpack_length]; exact h
  have hv : (Rowl.unpack n b)[k] = bitOf b k := by
    have := Rowl.unpack_get n b k h
    rw [List.getD_eq_getElem?_getD, List.getElem?_eq_getElem hk] at this
    exact this
  unfold rowTo
  have e : n - k = (n - (k + 1)) + 1 := by omega
  rw [List.take_succ_eq_append_getElem hk, hv, e, List.replicate_succ, List.append_assoc, List.set_append_right _ _ (by rw [List.length_take]; omega)]
  congr 1
  rw [List.length_take, show k - min k (Rowl.unpack n b).length = 0 by omega]; rfl
theorem rowTo_past (n : Nat) (b : List Int) (k : Nat) (h : n ≤ k) : rowTo n b (k + 1) = rowTo n b k := by rw [rowTo_full n b k h, rowTo_full n b (k + 1) (by omega)]
theorem rd_range {b : List Int} (hb : Num.Bytes b) (q : Nat) (h : q < b.length) : 0 ≤ rd b (q : Int) ∧ rd b (q : Int) ≤ 255 := by
  unfold rd
  rw [List.getD_eq_getElem?_getD, Int.toNat_natCast, List.getElem?_eq_getElem h]
  exact hb.get h
/-- A bit as the code reads it. -/
theorem bitOf_and {b : List Int} (hb : Num.Bytes b) (i : Nat) (h : i / 8 < b.length) : (Go.bits .and .u8 (rd b ((i / 8 : Nat) : Int) / 2 ^ (i % 8)) 1 == 1) = bitOf b i := by
  have hr := rd_range hb (i / 8) h
  have h2 := Rowl.and_bit ⟨(rd b ((i / 8 : Nat) : Int)).toNat, by omega⟩ ⟨i % 8, by omega⟩
  simp only at h2
  rw [show (((rd b ((i / 8 : Nat) : Int)).toNat : Nat) : Int) = rd b ((i / 8 : Nat) : Int) by omega] at h2
  exact h2
theorem shr_zero_iff {x : Int} (h0 : 0 ≤ x) (h1 : x ≤ 255) {t : Nat} (ht : t < 8) : shr .u8 x (t : Int) = 0 ↔ ∀ u, t ≤ u → u < 8 → x.toNat.testBit u = false := by
  obtain ⟨n, rfl⟩ := Int.eq_ofNat_of_zero_le h0
  have : ∀ (n : Fin 256) (t : Fin 8), (shr .u8 (n.val : Int) (t.val : Int) == 0) = (List.range 8).all (fun u => !decide (t.val ≤ u) || !n.val.testBit u) := by decide +kernel
  have h := this ⟨n, by omega⟩ ⟨t, ht⟩
  simp only at h
  rw [Int.toNat_natCast]
  constructor
  · intro e u hu1 hu2
    rw [e] at h
    have h := List.all_eq_true.1 h.symm u (List.mem_range.2 hu2)
    simpa [hu1] using h
  · intro hu
    rw [← beq_iff_eq, h, List.all_eq_true]
    intro u hm
    by_cases c : t ≤ u
    · simp [c, hu u c (List.mem_range.1 hm)]
    · simp [c]
/-- Bytes are a row's just where no bit stands behind its end. -/
theorem ofOk_iff {n : Int} {b : List Int} (hb : Num.Bytes b) : OfOk n b ↔ (0 ≤ n ∧ n ≤ 4096 ∧ (b.length : Int) = rowBytes n ∧ ∀ i : Nat, n ≤ i → i < 8 * b.length → bitOf b i = false) := by
  unfold OfOk
  constructor
  · rintro ⟨h0, h1, h2, h3⟩
    refine ⟨h0, h1, h2, fun i hi1 hi2 => ?_⟩
    obtain ⟨n, rfl⟩ := Int.eq_ofNat_of_zero_le h0
    have hl : b.length = (n + 7) / 8 := by unfold rowBytes at h2; rw [Int.tdiv_eq_ediv_of_nonneg (by omega)] at h2; omega
    rw [show ((n : Int)).tmod 8 = ((n % 8 : Nat) : Int) from tmod_nat n 8] at h3
    rcases h3 with h3 | h3
    · omega
    · by_cases c : n % 8 = 0
      · omega
      · have e1 : i / 8 = b.length - 1 := by omega
        have hr := rd_range hb (b.length - 1) (by omega)
        rw [show ((b.length : Int) - 1) = ((b.length - 1 : Nat) : Int) by omega] at h3
        have := (shr_zero_iff hr.1 hr.2 (by omega)).1 h3 (i % 8) (by omega) (by omega)
        unfold bitOf
        rw [e1]; exact this
  · rintro ⟨h0, h1, h2, h3⟩
    refine ⟨h0, h1, h2, ?_⟩
    obtain ⟨n, rfl⟩ := Int.eq_ofNat_of_zero_le h0
    have hl : b.length = (n + 7) / 8 := by unfold rowBytes at h2; rw [Int.tdiv_eq_ediv_of_nonneg (by omega)] at h2; omega
    rw [show ((n : Int)).tmod 8 = ((n % 8 : Nat) : Int) from tmod_nat n 8]
    by_cases c : n % 8 = 0
    · left; omega
    · right
      have hr := rd_range hb (b.length - 1) (by omega)
      rw [show ((b.length : Int) - 1) = ((b.length - 1 : Nat) : Int) by omega]
      refine (shr_zero_iff hr.1 hr.2 (by omega)).2 (fun u hu1 hu2 => ?_)
      have := h3 (8 * (b.length - 1) + u) (by omega) (by omega)
      unfold bitOf at this
      rw [show (8 * (b.length - 1) + u) / 8 = b.length - 1 by omega, show (8 * (b.length - 1) + u) % 8 = u by omega] at this
      exact this
theorem pack_of {n : Nat} {b : List Int} (hb : Num.Bytes b) (h : OfOk (n : Int) b) : Rowl.pack (Rowl.unpack n b) = b := by
  obtain ⟨h0, h1, h2, h3⟩ := (ofOk_iff hb).1 h
  have hl : b.length = (n + 7) / 8 := by unfold rowBytes at h2; rw [Int.tdiv_eq_ediv_of_nonneg (by omega)] at h2; omega
  exact Rowl.pack_unpack n b hb hl (fun i hi1 hi2 => h3 i (by omega) hi2)
/-- A bit stands behind the row's end: the first. -/
theorem first_bad {n : Nat} {b : List Int} (h : ¬ ∀ i : Nat, n ≤ i → i < 8 * b.length → bitOf b i = false) : ∃ m, n ≤ m ∧ m < 8 * b.length ∧ bitOf b m = true ∧ ∀ i, n ≤ i → i < m → bitOf b i = false := by
  have hex : ∃ m, n ≤ m ∧ m < 8 * b.length ∧ bitOf b m = true := by
    false_or_by_contra
    rename_i hc
    refine h (fun i h1 h2 => ?_)
    cases hb : bitOf b i with
    | false => rfl
    | true => exact absurd ⟨i, h1, h2, hb⟩ hc
  have : ∀ d m, m - n ≤ d → n ≤ m → m < 8 * b.length → bitOf b m = true → ∃ m, n ≤ m ∧ m < 8 * b.length ∧ bitOf b m = true ∧ ∀ i, n ≤ i → i < m → bitOf b i = false := by
    intro d
    induction d with
    | zero => exact fun m hd h1 h2 h3 => ⟨m, h1, h2, h3, fun i a b => by omega⟩
    | succ d ih =>
      intro m hd h1 h2 h3
      by_cases c : ∃ i, n ≤ i ∧ i < m ∧ bitOf b i = true
      · obtain ⟨i, a1, a2, a3⟩ := c
        exact ih i (by omega) a1 (by omega) a3
      · refine ⟨m, h1, h2, h3, fun i a1 a2 => ?_⟩
        cases hb : bitOf b i with
        | false => rfl
        | true => exact absurd ⟨i, a1, a2, hb⟩ c
  obtain ⟨m, h1, h2, h3⟩ := hex
  exact this _ m (Nat.le_refl _) h1 h2 h3
set_option maxRecDepth 100000 in
theorem ref_Of_arg (n : Int) (A0 : Option Addr) (c0 : Nat) (b : List Int) (w : World) (h : n < 0 ∨ 4096 < n) :
    Calls Try.prog 45 #[.int .i64 n, .slice A0 b.length c0] w fun e w' => e = .returned (.tuple #[.pointer none, .int .i64 1]) ∧ Below w.heap.size w w' := by
  by_cases h0 : n < 0
  · have q1 : decide (n < 0) = true := decide_eq_true h0
    clear h h0
    go_enter Try.func45, Try.ntmps45
    go_wp2
    go_ret2
    exact ⟨rfl, Below.refl _ _⟩
  · have q1 : decide (n < 0) = false := decide_eq_false h0
    have q2 : decide (4096 < n) = true := decide_eq_true (by omega)
    clear h h0
    go_enter Try.func45, Try.ntmps45
    go_wp2
    go_ret2
    exact ⟨rfl, Below.refl _ _⟩
set_option maxHeartbeats 800000 in
set_option maxRecDepth 100000 in
theorem ref_Of_len (n : Int) (A0 : Option Addr) (c0 : Nat) (b : List Int) (w : World) (h0 : 0 ≤ n) (h1 : n ≤ 4096) (h2 : (b.length : Int) ≠ rowBytes n) (hb : b.length ≤ 1000000) :
    Calls Try.prog 45 #[.int .i64 n, .slice A0 b.length c0] w fun e w' => e = .returned (.tuple #[.pointer none, .int .i64 18]) ∧ Below w.heap.size w w' := by
  have q1 : decide (n < 0) = false := decide_eq_false (by omega)
  have q2 : decide (4096 < n) = false := decide_eq_false (by omega)
  obtain ⟨j, hj⟩ : ∃ j, (n + 7).tdiv 8 = j := ⟨_, rfl⟩
  have hj0 : 0 ≤ j ∧ j ≤ 512 := by rw [← hj]; exact rowBytes_0 h0 h1
  have q3 : ((b.length : Int) != j) = true := bne_iff_ne.2 (by rw [← hj]; exact h2)
  have q4 : IntKind.i64.wrap j = j := by rw [i64_w]; unfold wrap64; omega
  clear h2
  go_enter Try.func45, Try.ntmps45
  go_wp2_with (first
    | (go_at_call 52; go_must (refine (ref_New_calls n _).mono ?_); rintro e w1 ⟨g, rfl, ho, hg, hb1⟩; have HB1 := Aside0.mk hb1; clear ho hg hb1))
  go_ret2
  exact ⟨rfl, HB1.out⟩
/-- What Of answers where the first bit behind the row's end stands at m. -/
def OfPost (m n : Nat) (b : List Int) (w : World) (e : Ending) (w' : World) : Prop := if m = 8 * b.length then ∃ g, e = .returned (.tuple #[.pointer (some ⟨g, 0, none⟩), .int .i64 0]) ∧ RefRow w' w.heap.size g (Rowl.unpack n b) ∧ w.heap.size ≤ g else e = .returned (.tuple #[.pointer none, .int .i64 18])
set_option maxHeartbeats 1600000 in
set_option maxRecDepth 100000 in
theorem ref_Of_loop (n : Nat) (A0 : Option Addr) (c0 : Nat) (b : List Int) (w : World) (hr0 : Kd.C (Kd.int .u8) w A0 b.length b) (h1 : n ≤ 4096) (h2 : (b.length : Int) = rowBytes n) (hby : Num.Bytes b) (m : Nat) (hm : n ≤ m) (hm2 : m ≤ 8 * b.length) (hok : ∀ i, n ≤ i → i < m → bitOf b i = false) (hbad : m < 8 * b.length → bitOf b m = true) :
    Calls Try.prog 45 #[.int .i64 n, .slice A0 b.length c0] w fun e w' => OfPost m n b w e w' ∧ Below w.heap.size w w' := by
  have q1 : decide ((n : Int) < 0) = false := decide_eq_false (by omega)
  have q2 : decide (4096 < (n : Int)) = false := decide_eq_false (by omega)
  have q22 : decide (4096 < n) = false := decide_eq_false (by omega)
  obtain ⟨j, hj⟩ : ∃ j, ((n : Int) + 7).tdiv 8 = j := ⟨_, rfl⟩
  have hjb : (b.length : Int) = j := by rw [h2, ← hj]; rfl
  have hj0 : 0 ≤ j ∧ j ≤ 512 := by rw [← hj]; exact rowBytes_0 (by omega) (by omega)
  have hjn : b.length = (n + 7) / 8 := by rw [Int.tdiv_eq_ediv_of_nonneg (by omega)] at hj; omega
  have q3 : ((b.length : Int) != j) = false := by rw [hjb]; simp
  have HJB := Aside0.mk hjb
  have HJN := Aside0.mk hjn
  have q4 : IntKind.i64.wrap j = j := by rw [i64_w]; unfold wrap64; omega
  have HR := Aside0.mk hr0
  have HBY := Aside0.mk hby
  have HOK := Aside0.mk hok
  have HBAD := Aside0.mk hbad
  have hbl : b.length ≤ 512 := by omega
  have q5 : IntKind.i64.wrap (8 * (b.length : Int)) = 8 * (b.length : Int) := by rw [i64_w]; unfold wrap64; omega
  have HCR : Aside0 (clampRow (n : Int) = (n : Int)) := ⟨clampRow_in (by omega) (by omega)⟩
  clear h2 hjb hjn hr0 hby hok hbad
  go_enter Try.func45, Try.ntmps45
  go_wp2_with (first
    | (go_at_call 52; go_must (refine (ref_New_calls n _).mono ?_); rintro e w1 ⟨g, rfl, ho, hg, hb1⟩; rw [HCR.out, Int.toNat_natCast, ← rowTo_zero n b] at ho; have HO := Aside0.mk ho; have HG := Aside0.mk hg; have HB1 := Aside0.mk hb1; clear ho hg hb1))
  go_loopw [26] (fun i wr => ∃ k : Nat, k ≤ m ∧ i = .int .i64 k ∧ Aside0 (RefRow wr w.heap.size g (rowTo n b k)) ∧ Aside0 (Below w.heap.size w wr)) (fun i _ => 8 * b.length - (intOf i).toNat)
  case atStart => exact ⟨0, Nat.zero_le _, rfl, HO, HB1⟩
  case round =>
    obtain ⟨k, hk, rfl, HO, HB⟩ := hrel
    by_cases hlt : k < 8 * b.length
    · obtain ⟨q, hq⟩ : ∃ q, k / 8 = q := ⟨_, rfl⟩
      obtain ⟨tm, htm⟩ : ∃ tm, k % 8 = tm := ⟨_, rfl⟩
      have hqb : q < b.length := by omega
      have ht8 : tm < 8 := by omega
      have hbit := bitOf_and HBY.out k (by omega)
      rw [hq, htm] at hbit
      have w1q : ((k : Int)).tdiv 8 = (q : Int) := by rw [Int.tdiv_eq_ediv_of_nonneg (by omega)]; omega
      have w2q : ((k : Int)).tmod 8 = (tm : Int) := by rw [Int.tmod_eq_emod_of_nonneg (by omega)]; omega
      have w3q : IntKind.i64.wrap (q : Int) = (q : Int) := by rw [i64_w]; unfold wrap64; omega
      have p4 : decide (0 ≤ (tm : Int)) = true := decide_eq_true (by omega)
      obtain ⟨ad, hA, hy⟩ := Kd.at_int HR.out (q : Int) (by omega) (by omega)
      subst hA
      rw [Int.toNat_natCast] at hy
      have hy1 := pw_cell_below HB.out hy
      obtain ⟨y, hy0⟩ : ∃ y, rd b (q : Int) = y := ⟨_, rfl⟩
      rw [hy0] at hy1 hbit
      obtain ⟨z, hz⟩ : ∃ z, y / 2 ^ tm = z := ⟨_, rfl⟩
      have hz2 : y / 2 ^ min tm 8 = z := by rw [Nat.min_eq_left (by omega)]; exact hz
      rw [hz] at hbit
      clear hq htm hy hy0
      by_cases hkn : k < n
      · have HS := Aside0.mk (rowTo_step n b k hkn)
        obtain ⟨on, hon⟩ : ∃ on, bitOf b k = on := ⟨_, rfl⟩
        rw [hon] at hbit HS
        have hkl : k < (rowTo n b k).length := by rw [rowTo_len]; exact hkn
        clear hon
        obtain ⟨l, hl⟩ : ∃ l, rowTo n b k = l := ⟨_, rfl⟩
        rw [hl] at HO HS hkl
        have hln : l.length = n := by rw [← hl, rowTo_len]
        obtain ⟨A, c, hbk, ho⟩ := HO.out
        obtain ⟨ga, ca, hform, gb, _⟩ := Kd.R_form ho (by omega)
        injection hform with hA _ _
        subst hA
        have HNE := Aside0.mk (show g ≠ ga from fun e => absurd (ho.1 ga rfl) (by rw [e]; exact Nat.lt_irrefl _))
        have BK := Aside0.mk hbk
        have GB := Aside0.mk gb
        have hc0 : wr.cell? ⟨g, 0, none⟩ = some (.slice (some ⟨ga, 0, none⟩) l.length c) := (blk_cell BK.out 0).trans rfl
        have hf0 := blk_frozen BK.out 0
        have hx := Kd.R_cell false ho (k : Int) (by omega) (by omega)
        have hx1 : wr.cell? ⟨ga, k, none⟩ = some (.bool (bitAt l k)) := hx.1
        have hx2 : wr.frozen? ⟨ga, k, none⟩ = false := hx.2
        have HP : Aside0 (Kd.R Kd.bool 4 (wr.setCell ⟨ga, k, none⟩ (.bool on)) w.heap.size (fun i => i < g) (.slice (some ⟨ga, 0, none⟩) l.length c) (l.set k on)) := ⟨(Kd.R_putg ho (k : Int) on).1⟩
        have HM : Aside0 (k + 1 ≤ m) := ⟨by omega⟩
        have HLN := Aside0.mk hln
        clear hbk ho gb hx hl hln
        go_wp2
        go_roundw
        case rel => exact ⟨k + 1, HM.out, by go_num, ⟨by rw [HS.out]; exact ⟨some ⟨ga, 0, none⟩, c, by rw [List.length_set]; exact blk_far BK.out HNE.out _, by rw [List.length_set]; exact HP.out⟩⟩, ⟨HB.out.setCell GB.out _⟩⟩
        case measure => simp [intOf]; omega
      · have hkn' : decide ((k : Int) < (n : Int)) = false := decide_eq_false (by omega)
        cases hbk : bitOf b k with
        | true =>
          rw [hbk] at hbit
          have hkm : k = m := by
            false_or_by_contra
            have := HOK.out k (by omega) (by omega)
            rw [this] at hbk; cases hbk
          have HIF : Aside0 (¬ m = 8 * b.length) := ⟨by omega⟩
          clear hbk hkm
          go_wp2
          go_ret2
          exact ⟨by unfold OfPost; rw [if_neg HIF.out]; rfl, HB.out⟩
        | false =>
          rw [hbk] at hbit
          have hkm : k + 1 ≤ m := by
            false_or_by_contra
            have := HBAD.out (by omega)
            rw [show m = k by omega, hbk] at this; cases this
          have HM := Aside0.mk hkm
          have HS := Aside0.mk (rowTo_past n b k (by omega))
          clear hbk hkm
          go_wp2
          go_roundw
          case rel => exact ⟨k + 1, HM.out, by go_num, by rw [HS.out]; exact HO, HB⟩
          case measure => simp [intOf]; omega
    · have HM : Aside0 (m = 8 * b.length) := ⟨by omega⟩
      have HF := Aside0.mk (rowTo_full n b k (by omega))
      rw [HF.out] at HO
      have hd : decide ((k : Int) < 8 * (b.length : Int)) = false := decide_eq_false (by omega)
      go_wp2
      go_ret2
      exact ⟨by unfold OfPost; rw [if_pos HM.out]; exact ⟨g, rfl, HO.out, HG.out⟩, HB.out⟩
theorem ref_Of_ok (n : Nat) (A0 : Option Addr) (c0 : Nat) (b : List Int) (w : World) (hr0 : Kd.C (Kd.int .u8) w A0 b.length b) (hby : Num.Bytes b) (h : OfOk (n : Int) b) :
    Calls Try.prog 45 #[.int .i64 n, .slice A0 b.length c0] w fun e w' => ∃ g, e = .returned (.tuple #[.pointer (some ⟨g, 0, none⟩), .int .i64 0]) ∧ RefRow w' w.heap.size g (Rowl.unpack n b) ∧ w.heap.size ≤ g ∧ Below w.heap.size w w' := by
  obtain ⟨h0, h1, h2, h3⟩ := (ofOk_iff hby).1 h
  have hjn : n ≤ 8 * b.length := by unfold rowBytes at h2; rw [Int.tdiv_eq_ediv_of_nonneg (by omega)] at h2; omega
  refine (ref_Of_loop n A0 c0 b w hr0 (by omega) h2 hby (8 * b.length) hjn (Nat.le_refl _) (fun i a1 a2 => h3 i (by omega) a2) (fun hx => by omega)).mono ?_
  rintro e w' ⟨he, hb⟩
  unfold OfPost at he
  rw [if_pos rfl] at he
  obtain ⟨g, he, ho, hg⟩ := he
  exact ⟨g, he, ho, hg, hb⟩
theorem ref_Of_bad (n : Int) (A0 : Option Addr) (c0 : Nat) (b : List Int) (w : World) (hr0 : Kd.C (Kd.int .u8) w A0 b.length b) (hby : Num.Bytes b) (hbl : b.length ≤ 1000000) (h : ¬ OfOk n b) :
    Calls Try.prog 45 #[.int .i64 n, .slice A0 b.length c0] w fun e w' => e = .returned (.tuple #[.pointer none, .int .i64 (ofErr n)]) ∧ Below w.heap.size w w' := by
  by_cases h0 : n < 0 ∨ 4096 < n
  · rw [show ofErr n = 1 from if_pos h0]; exact ref_Of_arg n A0 c0 b w h0
  · rw [show ofErr n = 18 from if_neg h0]
    by_cases h2 : (b.length : Int) = rowBytes n
    · obtain ⟨n, rfl⟩ := Int.eq_ofNat_of_zero_le (show 0 ≤ n by omega)
      have h3 : ¬ ∀ i : Nat, n ≤ i → i < 8 * b.length → bitOf b i = false := fun h3 => h ((ofOk_iff hby).2 ⟨by omega, by omega, h2, fun i a1 a2 => h3 i (by omega) a2⟩)
      obtain ⟨m, m1, m2, m3, m4⟩ := first_bad h3
      refine (ref_Of_loop n A0 c0 b w hr0 (by omega) h2 hby m m1 (by omega) m4 (fun _ => m3)).mono ?_
      rintro e w' ⟨he, hb⟩
      unfold OfPost at he
      rw [if_neg (by omega)] at he
      exact ⟨he, hb⟩
    · exact ref_Of_len n A0 c0 b w (by omega) (by omega) h2 hbl
/-- A row of bits of the program's own, as a list of bits. -/
def BRow (W : World) (base g : Nat) (l : List Bool) : Prop := OwnRow_ W base g (l.length : Int) (Rowl.pack l)
theorem BRow.below {W W1 : World} {base g : Nat} {l : List Bool} (h : BRow W base g l) (hb : Below W.heap.size W W1) : BRow W1 base g l := by
  obtain ⟨A, c, hbk, ho, hg⟩ := h
  exact ⟨A, c, blk_below hbk hb, Kd.R_below ho hb, hg⟩
theorem BRow.tykeep {W W1 : World} {base g : Nat} {l : List Bool} (h : BRow W base g l) (hk : TyKeep 4 W W1) : BRow W1 base g l := OwnRow_.tykeep h hk
set_option maxHeartbeats 800000 in
set_option maxRecDepth 100000 in
theorem bits_Bytes_calls (g : Nat) (l : List Bool) (base : Nat) (w : World) (hI : BRow w base g l) (hl : l.length ≤ 4096) :
    Calls Try.prog 47 #[.pointer (some ⟨g, 0, none⟩)] w fun e w' => ∃ v, e = .returned v ∧ Kd.R (Kd.int .u8) 5 w' w.heap.size (fun _ => True) v (Rowl.pack l) ∧ Below w.heap.size w w' := by
  obtain ⟨A, c, hbk, ho, hg⟩ := hI
  have hc1 : w.cell? ⟨g, 1, none⟩ = some (.slice A (Rowl.pack l).length c) := (blk_cell hbk 1).trans rfl
  have hf1 := blk_frozen hbk 1
  have HR := Aside0.mk (Kd.R_reads' ho).2
  have HF : Aside0 (slices_Clone_byte_byte.f (Rowl.pack l) = some (Rowl.pack l)) := ⟨if_pos (by rw [Rowl.pack_length]; omega)⟩
  clear hbk ho hg
  go_enter Try.func47, Try.ntmps47
  go_wp2_with (first
    | (go_at_call 56; go_must (refine (slices_Clone_byte_byte.calls A c (Rowl.pack l) (Rowl.pack l) w HR.out.2 HR.out.1 HF.out).mono ?_); rintro e w1 ⟨v, rfl, ho, hb⟩; have HO := Aside0.mk ho; have HB := Aside0.mk hb; clear ho hb))
  go_ret
  exact ⟨v, rfl, HO.out, HB.out⟩
theorem BRow.open_ {W : World} {base g : Nat} {l : List Bool} (h : BRow W base g l) : ∃ A c, W.cell? ⟨g, 0, none⟩ = some (.int .i64 (l.length : Int)) ∧ W.cell? ⟨g, 1, none⟩ = some (.slice A (Rowl.pack l).length c) ∧ W.frozen? ⟨g, 0, none⟩ = false ∧ W.frozen? ⟨g, 1, none⟩ = false ∧ (0 < l.length → ∃ ga, A = some ⟨ga, 0, none⟩ ∧ base ≤ ga ∧ ga ≠ g ∧ ∀ q : Nat, q < (l.length + 7) / 8 → W.cell? ⟨ga, q, none⟩ = some (.int .u8 (rd (Rowl.pack l) q)) ∧ W.frozen? ⟨ga, q, none⟩ = false) := by
  obtain ⟨A, c, hbk, ho, hg⟩ := h
  refine ⟨A, c, (blk_cell hbk 0).trans rfl, (blk_cell hbk 1).trans rfl, blk_frozen hbk 0, blk_frozen hbk 1, fun hp => ?_⟩
  have hpl := Rowl.pack_length l
  obtain ⟨ga, ca, hform, gb, _⟩ := Kd.R_form ho (by omega)
  injection hform with hA hln hcc
  subst hA
  refine ⟨ga, rfl, gb, fun e => absurd (ho.1 ga rfl) (by rw [e]; exact Nat.lt_irrefl _), fun k hk => ?_⟩
  exact Kd.R_cell 0 ho (k : Int) (by omega) (by omega)
set_option maxRecDepth 100000 in
theorem bits_Len_calls (g : Nat) (l : List Bool) (base : Nat) (w : World) (hI : BRow w base g l) :
    Calls Try.prog 43 #[.pointer (some ⟨g, 0, none⟩)] w fun e w' => e = .returned (.int .i64 (l.length : Int)) ∧ w = w' := by
  obtain ⟨A, c, hc0, hc1, hf0, hf1, hin⟩ := hI.open_
  clear hI hin
  go_enter Try.func43, Try.ntmps43
  go_wp2
  go_ret
  exact ⟨rfl, rfl⟩
set_option maxHeartbeats 800000 in
set_option maxRecDepth 100000 in
theorem bits_Get_calls (g : Nat) (l : List Bool) (i : Int) (base : Nat) (w : World) (hI : BRow w base g l) (hl : l.length ≤ 4096) :
    Calls Try.prog 44 #[.pointer (some ⟨g, 0, none⟩), .int .i64 i] w fun e w' => e = .returned (.bool (getS l i)) ∧ w = w' := by
  obtain ⟨A, c, hc0, hc1, hf0, hf1, hin⟩ := hI.open_
  have HIN := Aside0.mk hin
  have HPL := Aside0.mk (Rowl.pack_length l)
  clear hI hin
  by_cases h0 : 0 ≤ i
  · have d0 : decide (0 ≤ i) = true := decide_eq_true h0
    by_cases h1 : i < l.length
    · obtain ⟨ga, rfl, _, _, hcell⟩ := HIN.out (by omega)
      obtain ⟨k, rfl⟩ := Int.eq_ofNat_of_zero_le h0
      have hpb := Rowl.pack_bit l k (by omega)
      obtain ⟨q, hq⟩ : ∃ q, k / 8 = q := ⟨_, rfl⟩
      obtain ⟨tm, htm⟩ : ∃ tm, k % 8 = tm := ⟨_, rfl⟩
      rw [hq, htm] at hpb
      have hx := (hcell q (by omega)).1
      have hqp : (q : Int) < ((Rowl.pack l).length : Int) := by rw [HPL.out]; omega
      have ht8 : tm < 8 := by omega
      have w1q : ((k : Int)).tdiv 8 = (q : Int) := by rw [Int.tdiv_eq_ediv_of_nonneg (by omega)]; omega
      have w2q : ((k : Int)).tmod 8 = (tm : Int) := by rw [Int.tmod_eq_emod_of_nonneg (by omega)]; omega
      have w3q : IntKind.i64.wrap (q : Int) = (q : Int) := by rw [i64_w]; unfold wrap64; omega
      have w4q : IntKind.u64.wrap (tm : Int) = (tm : Int) := by rw [IntKind.wrap_u64]; omega
      have p4 : decide (0 ≤ (tm : Int)) = true := decide_eq_true (by omega)
      obtain ⟨y, hy0⟩ : ∃ y, rd (Rowl.pack l) (q : Int) = y := ⟨_, rfl⟩
      obtain ⟨z, hz⟩ : ∃ z, y / 2 ^ tm = z := ⟨_, rfl⟩
      have hz2 : y / 2 ^ min tm 8 = z := by rw [Nat.min_eq_left (by omega)]; exact hz
      have hz3 : shr .u8 y (tm : Int) = z := by unfold shr; rw [Int.toNat_natCast]; exact hz2
      rw [hy0] at hx
      rw [hy0, hz3] at hpb
      have d1 : decide ((k : Int) < (l.length : Int)) = true := decide_eq_true h1
      have d2 : decide (k < l.length) = true := decide_eq_true (by omega)
      have HV := Aside0.mk (getS_in (l := l) (i := (k : Int)) h0)
      have hpb' : (Go.bits .and .u8 z 1 == 1) = bitAt l k := hpb
      obtain ⟨bv, hbv⟩ : ∃ bv, bitAt l k = bv := ⟨_, rfl⟩
      rw [hbv] at hpb'
      have HBV := Aside0.mk hbv
      clear hcell HIN hq htm hy0 hz3 hpb hbv
      go_enter Try.func44, Try.ntmps44
      go_wp2
      go_ret
      exact ⟨show Ending.returned (.bool bv) = _ by rw [HV.out, Int.toNat_natCast, HBV.out], rfl⟩
    · have d1 : decide (i < (l.length : Int)) = false := decide_eq_false h1
      have HV := Aside0.mk (getS_big (l := l) (i := i) (by omega))
      clear HIN
      go_enter Try.func44, Try.ntmps44
      go_wp2
      go_ret
      exact ⟨show Ending.returned (.bool false) = _ by rw [HV.out], rfl⟩
  · have d0 : decide (0 ≤ i) = false := decide_eq_false h0
    have HV := Aside0.mk (getS_neg (l := l) (i := i) (by omega))
    clear HIN
    go_enter Try.func44, Try.ntmps44
    go_wp2
    go_ret
    exact ⟨show Ending.returned (.bool false) = _ by rw [HV.out], rfl⟩
set_option maxHeartbeats 1600000 in
set_option maxRecDepth 100000 in
theorem bits_First_calls (gp : Nat) (l : List Bool) (goal : Int) (base : Nat) (w : World) (hI : BRow w base gp l) (hl : l.length ≤ 4096) :
    Calls Try.prog 48 #[.pointer (some ⟨gp, 0, none⟩), .int .i64 goal] w fun e w' => e = .returned (.int .i64 (firstS l goal)) ∧ w = w' := by
  have HI := Aside0.mk hI
  obtain ⟨A, c, hc0, hc1, hf0, hf1, hin⟩ := hI.open_
  clear hI hin
  obtain ⟨g, hg⟩ : ∃ g, goalAt l goal = g := ⟨_, rfl⟩
  have hfs : firstS l goal = firstFrom l g (l.length - 0) 0 := by unfold firstS; rw [hg]; rfl
  have HFS := Aside0.mk hfs
  clear hfs
  by_cases h0 : 0 ≤ goal
  · have d0 : decide (goal < 0) = false := decide_eq_false (by omega)
    by_cases h1 : goal < l.length
    · have d1 : decide ((l.length : Int) ≤ goal) = false := decide_eq_false (by omega)
      have hgl : g < l.length := by unfold goalAt at hg; rw [if_pos ⟨h0, h1⟩] at hg; omega
      obtain rfl : goal = (g : Int) := by unfold goalAt at hg; rw [if_pos ⟨h0, h1⟩] at hg; omega
      clear hg
      go_enter Try.func48, Try.ntmps48
      go_wp2_with (go_at_call 43; go_must (refine (bits_Len_calls gp l base _ HI.out).mono ?_); rintro e w' ⟨rfl, rfl⟩)
      go_loop [17] (fun i => ∃ k : Nat, k ≤ l.length ∧ i = .int .i64 k ∧ Aside0 (firstS l (g : Int) = firstFrom l g (l.length - k) k)) (fun i => l.length - (intOf i).toNat)
      case atStart => exact ⟨0, Nat.zero_le _, rfl, HFS⟩
      case round =>
        obtain ⟨k, hk, rfl, HF⟩ := hrel
        by_cases hlt : k < l.length
        · obtain ⟨m, hm⟩ : ∃ m, (g + k) % l.length = m := ⟨_, rfl⟩
          have hml : m < l.length := by rw [← hm]; exact Nat.mod_lt _ (by omega)
          have ht : ((g : Int) + (k : Int)).tmod (l.length : Int) = (m : Int) := by rw [← hm, ← tmod_nat]; rfl
          have hz : ((l.length : Int) == 0) = false := by rw [beq_eq_false_iff_ne]; omega
          have HM := Aside0.mk hm
          have HG : Aside0 (getS l (m : Int) = bitAt l m) := ⟨getS_in (by omega)⟩
          clear hm
          by_cases hv : bitAt l m = true
          · have HN := Aside0.mk (HF.out.trans (firstFrom_on l g k hlt (by rw [HM.out]; exact hv)))
            rw [hv] at HG
            go_wp2_with (go_at_call 44; go_must (refine (bits_Get_calls gp l (m : Int) base _ HI.out hl).mono ?_); rw [HG.out]; rintro e w' ⟨rfl, rfl⟩)
            go_round
            case rel => exact ⟨k + 1, by omega, by go_num, HN⟩
            case measure => simp [intOf]; omega
          · have HN := Aside0.mk (HF.out.trans (firstFrom_here l g k hlt (by rw [HM.out]; exact hv)))
            have hv' : bitAt l m = false := Bool.eq_false_iff.2 hv
            rw [hv'] at HG
            go_wp2_with (go_at_call 44; go_must (refine (bits_Get_calls gp l (m : Int) base _ HI.out hl).mono ?_); rw [HG.out]; rintro e w' ⟨rfl, rfl⟩)
            go_ret
            exact ⟨show Ending.returned (.int .i64 (m : Int)) = _ by rw [HN.out, HM.out], rfl⟩
        · obtain rfl : k = l.length := by omega
          have HN := Aside0.mk (HF.out.trans (firstFrom_end l g))
          go_wp2
          go_ret
          exact ⟨show Ending.returned (.int .i64 (-1)) = _ by rw [HN.out], rfl⟩
    · have d1 : decide ((l.length : Int) ≤ goal) = true := decide_eq_true (by omega)
      obtain rfl : g = 0 := by unfold goalAt at hg; rw [if_neg (by omega)] at hg; exact hg.symm
      clear hg
      go_enter Try.func48, Try.ntmps48
      go_wp2_with (go_at_call 43; go_must (refine (bits_Len_calls gp l base _ HI.out).mono ?_); rintro e w' ⟨rfl, rfl⟩)
      go_loop [17] (fun i => ∃ k : Nat, k ≤ l.length ∧ i = .int .i64 k ∧ Aside0 (firstS l goal = firstFrom l 0 (l.length - k) k)) (fun i => l.length - (intOf i).toNat)
      case atStart => exact ⟨0, Nat.zero_le _, rfl, HFS⟩
      case round =>
        obtain ⟨k, hk, rfl, HF⟩ := hrel
        by_cases hlt : k < l.length
        · obtain ⟨m, hm⟩ : ∃ m, (0 + k) % l.length = m := ⟨_, rfl⟩
          have hml : m < l.length := by rw [← hm]; exact Nat.mod_lt _ (by omega)
          have ht : ((k : Int)).tmod (l.length : Int) = (m : Int) := by rw [← hm, Nat.zero_add, ← tmod_nat]
          have hz : ((l.length : Int) == 0) = false := by rw [beq_eq_false_iff_ne]; omega
          have HM := Aside0.mk hm
          have HG : Aside0 (getS l (m : Int) = bitAt l m) := ⟨getS_in (by omega)⟩
          clear hm
          by_cases hv : bitAt l m = true
          · have HN := Aside0.mk (HF.out.trans (firstFrom_on l 0 k hlt (by rw [HM.out]; exact hv)))
            rw [hv] at HG
            go_wp2_with (go_at_call 44; go_must (refine (bits_Get_calls gp l (m : Int) base _ HI.out hl).mono ?_); rw [HG.out]; rintro e w' ⟨rfl, rfl⟩)
            go_round
            case rel => exact ⟨k + 1, by omega, by go_num, HN⟩
            case measure => simp [intOf]; omega
          · have HN := Aside0.mk (HF.out.trans (firstFrom_here l 0 k hlt (by rw [HM.out]; exact hv)))
            have hv' : bitAt l m = false := Bool.eq_false_iff.2 hv
            rw [hv'] at HG
            go_wp2_with (go_at_call 44; go_must (refine (bits_Get_calls gp l (m : Int) base _ HI.out hl).mono ?_); rw [HG.out]; rintro e w' ⟨rfl, rfl⟩)
            go_ret
            exact ⟨show Ending.returned (.int .i64 (m : Int)) = _ by rw [HN.out, HM.out], rfl⟩
        · obtain rfl : k = l.length := by omega
          have HN := Aside0.mk (HF.out.trans (firstFrom_end l 0))
          go_wp2
          go_ret
          exact ⟨show Ending.returned (.int .i64 (-1)) = _ by rw [HN.out], rfl⟩
  · have d0 : decide (goal < 0) = true := decide_eq_true (by omega)
    obtain rfl : g = 0 := by unfold goalAt at hg; rw [if_neg (by omega)] at hg; exact hg.symm
    clear hg
    go_enter Try.func48, Try.ntmps48
    go_wp2_with (go_at_call 43; go_must (refine (bits_Len_calls gp l base _ HI.out).mono ?_); rintro e w' ⟨rfl, rfl⟩)
    go_loop [17] (fun i => ∃ k : Nat, k ≤ l.length ∧ i = .int .i64 k ∧ Aside0 (firstS l goal = firstFrom l 0 (l.length - k) k)) (fun i => l.length - (intOf i).toNat)
    case atStart => exact ⟨0, Nat.zero_le _, rfl, HFS⟩
    case round =>
      obtain ⟨k, hk, rfl, HF⟩ := hrel
      by_cases hlt : k < l.length
      · obtain ⟨m, hm⟩ : ∃ m, (0 + k) % l.length = m := ⟨_, rfl⟩
        have hml : m < l.length := by rw [← hm]; exact Nat.mod_lt _ (by omega)
        have ht : ((k : Int)).tmod (l.length : Int) = (m : Int) := by rw [← hm, Nat.zero_add, ← tmod_nat]
        have hz : ((l.length : Int) == 0) = false := by rw [beq_eq_false_iff_ne]; omega
        have HM := Aside0.mk hm
        have HG : Aside0 (getS l (m : Int) = bitAt l m) := ⟨getS_in (by omega)⟩
        clear hm
        by_cases hv : bitAt l m = true
        · have HN := Aside0.mk (HF.out.trans (firstFrom_on l 0 k hlt (by rw [HM.out]; exact hv)))
          rw [hv] at HG
          go_wp2_with (go_at_call 44; go_must (refine (bits_Get_calls gp l (m : Int) base _ HI.out hl).mono ?_); rw [HG.out]; rintro e w' ⟨rfl, rfl⟩)
          go_round
          case rel => exact ⟨k + 1, by omega, by go_num, HN⟩
          case measure => simp [intOf]; omega
        · have HN := Aside0.mk (HF.out.trans (firstFrom_here l 0 k hlt (by rw [HM.out]; exact hv)))
          have hv' : bitAt l m = false := Bool.eq_false_iff.2 hv
          rw [hv'] at HG
          go_wp2_with (go_at_call 44; go_must (refine (bits_Get_calls gp l (m : Int) base _ HI.out hl).mono ?_); rw [HG.out]; rintro e w' ⟨rfl, rfl⟩)
          go_ret
          exact ⟨show Ending.returned (.int .i64 (m : Int)) = _ by rw [HN.out, HM.out], rfl⟩
      · obtain rfl : k = l.length := by omega
        have HN := Aside0.mk (HF.out.trans (firstFrom_end l 0))
        go_wp2
        go_ret
        exact ⟨show Ending.returned (.int .i64 (-1)) = _ by rw [HN.out], rfl⟩
theorem runFrom_big (l : List Bool) (n : Nat) (d : Nat) : ∀ k f, k + d = l.length → f ≤ k → l.length < n → runFrom l n d k f = -1 := by
  induction d with
  | zero => exact fun k f _ _ _ => rfl
  | succ d ih =>
    intro k f h1 h2 h3
    rw [runFrom]
    have hf : (if bitAt l k = true then 0 else f + 1) ≤ k + 1 := by by_cases c : bitAt l k = true <;> simp [c] <;> omega
    rw [if_neg (by omega)]
    exact ih (k + 1) _ (by omega) hf h3
theorem runS_from {l : List Bool} {n : Nat} (h : 1 ≤ n) : runS l (n : Int) = runFrom l n (l.length - 0) 0 0 := by
  unfold runS
  by_cases c : n ≤ l.length
  · rw [if_pos (by omega), Int.toNat_natCast]; rfl
  · rw [if_neg (by omega), runFrom_big l n _ 0 0 (by omega) (by omega) (by omega)]
set_option maxHeartbeats 1600000 in
set_option maxRecDepth 100000 in
theorem bits_Run_calls (gp : Nat) (l : List Bool) (n : Int) (base : Nat) (w : World) (hI : BRow w base gp l) (hl : l.length ≤ 4096) (hn : n ≤ 9223372036854775807) :
    Calls Try.prog 42 #[.pointer (some ⟨gp, 0, none⟩), .int .i64 n] w fun e w' => e = .returned (.int .i64 (runS l n)) ∧ w = w' := by
  have HI := Aside0.mk hI
  clear hI
  by_cases h0 : 1 ≤ n
  · have d0 : decide (n < 1) = false := decide_eq_false (by omega)
    obtain ⟨n, rfl⟩ := Int.eq_ofNat_of_zero_le (show 0 ≤ n by omega)
    have HFS := Aside0.mk (runS_from (l := l) (n := n) (by omega))
    have en : IntKind.i64.wrap ((n : Int) - 1) = (n : Int) - 1 := by rw [i64_w]; unfold wrap64; omega
    have en0 : 0 ≤ (n : Int) - 1 := by omega
    clear hn
    go_enter Try.func42, Try.ntmps42
    go_wp2_with (go_at_call 43; go_must (refine (bits_Len_calls gp l base _ HI.out).mono ?_); rintro e w' ⟨rfl, rfl⟩)
    go_loop [5, 11] (fun t i => ∃ k fr : Nat, k ≤ l.length ∧ fr ≤ k ∧ i = .int .i64 k ∧ t = .int .i64 fr ∧ Aside0 (runS l (n : Int) = runFrom l n (l.length - k) k (k - fr))) (fun _ i => l.length - (intOf i).toNat)
    case atStart => exact ⟨0, 0, Nat.zero_le _, Nat.zero_le _, rfl, rfl, HFS⟩
    case round =>
      obtain ⟨k, fr, hk, hfk, rfl, rfl, HF⟩ := hrel
      by_cases hlt : k < l.length
      · have HG : Aside0 (getS l (k : Int) = bitAt l k) := ⟨getS_in (by omega)⟩
        by_cases hv : bitAt l k = true
        · have HN := Aside0.mk (HF.out.trans (runFrom_step l n k (k - fr) 0 hlt (if_pos hv) (by omega)))
          rw [hv] at HG
          clear hv
          go_wp2_with (go_at_call 44; go_must (refine (bits_Get_calls gp l (k : Int) base _ HI.out hl).mono ?_); rw [HG.out]; rintro e w' ⟨rfl, rfl⟩)
          go_round
          case rel => exact ⟨k + 1, k + 1, by omega, by omega, by go_num, by go_num, by rw [Nat.sub_self]; exact HN⟩
          case measure => simp [intOf]; omega
        · have HV := Aside0.mk hv
          have hv' : bitAt l k = false := Bool.eq_false_iff.2 hv
          rw [hv'] at HG
          clear hv hv'
          have es : IntKind.i64.wrap ((k : Int) - (fr : Int)) = (k : Int) - (fr : Int) := by rw [i64_w]; unfold wrap64; omega
          by_cases hq : (k - fr) + 1 = n
          · have HN := Aside0.mk (HF.out.trans (runFrom_here l n k (k - fr) hlt (by rw [if_neg HV.out, hq])))
            have q : ((k : Int) - (fr : Int) == (n : Int) - 1) = true := by rw [beq_iff_eq]; omega
            have HE : Aside0 ((fr : Int) = (k : Int) - n + 1) := ⟨by omega⟩
            clear hq
            go_wp2_with (go_at_call 44; go_must (refine (bits_Get_calls gp l (k : Int) base _ HI.out hl).mono ?_); rw [HG.out]; rintro e w' ⟨rfl, rfl⟩)
            go_ret
            exact ⟨show Ending.returned (.int .i64 (fr : Int)) = _ by rw [HN.out, HE.out], rfl⟩
          · have HN := Aside0.mk (HF.out.trans (runFrom_step l n k (k - fr) (k - fr + 1) hlt (if_neg HV.out) hq))
            have q : ((k : Int) - (fr : Int) == (n : Int) - 1) = false := by rw [beq_eq_false_iff_ne]; omega
            have HE : Aside0 (k + 1 - fr = k - fr + 1) := ⟨by omega⟩
            clear hq
            go_wp2_with (go_at_call 44; go_must (refine (bits_Get_calls gp l (k : Int) base _ HI.out hl).mono ?_); rw [HG.out]; rintro e w' ⟨rfl, rfl⟩)
            go_round
            case rel => exact ⟨k + 1, fr, by omega, by omega, by go_num, rfl, by rw [HE.out]; exact HN⟩
            case measure => simp [intOf]; omega
      · obtain rfl : k = l.length := by omega
        have HN := Aside0.mk (HF.out.trans (runFrom_end l n _))
        go_wp2
        go_ret
        exact ⟨show Ending.returned (.int .i64 (-1)) = _ by rw [HN.out], rfl⟩
  · have d0 : decide (n < 1) = true := decide_eq_true (by omega)
    have HN : Aside0 (runS l n = -1) := ⟨if_neg (by omega)⟩
    clear hn
    go_enter Try.func42, Try.ntmps42
    go_wp2
    go_ret
    exact ⟨show Ending.returned (.int .i64 (-1)) = _ by rw [HN.out], rfl⟩
-- how many are 1: byte by byte
def cntS (l : List Bool) : Nat → Nat
  | 0 => 0
  | k + 1 => cntS l k + (bitAt l k).toNat
theorem cntTo_S (l : List Bool) (k : Nat) (h : k ≤ l.length) : cntTo l k = (cntS l k : Int) := by
  induction k with
  | zero => rfl
  | succ k ih =>
    rw [cntTo_succ l k (by omega), ih (by omega), cntS]
    cases bitAt l k <;> simp
theorem bitAt_out (l : List Bool) (k : Nat) (h : l.length ≤ k) : bitAt l k = false := by unfold bitAt; rw [List.getD_eq_getElem?_getD, List.getElem?_eq_none h]; rfl
theorem cntS_out (l : List Bool) (d : Nat) : cntS l (l.length + d) = cntS l l.length := by
  induction d with
  | zero => rfl
  | succ d ih => rw [Nat.add_succ, cntS, ih, bitAt_out l _ (by omega)]; rfl
theorem ones_by8' : ∀ (a b c d e f g h : Bool), Lib.onesCount (Rowl.by8' a b c d e f g h) = a.toNat + b.toNat + c.toNat + d.toNat + e.toNat + f.toNat + g.toNat + h.toNat := by decide +kernel
theorem cntS_byte (l : List Bool) (q : Nat) : cntS l (8 * (q + 1)) = cntS l (8 * q) + Lib.onesCount (Rowl.by8 (fun t => l.getD (8 * q + t) false)) := by
  show _ = _ + Lib.onesCount (Rowl.by8' (l.getD (8 * q + 0) false) (l.getD (8 * q + 1) false) (l.getD (8 * q + 2) false) (l.getD (8 * q + 3) false) (l.getD (8 * q + 4) false) (l.getD (8 * q + 5) false) (l.getD (8 * q + 6) false) (l.getD (8 * q + 7) false))
  rw [ones_by8', show 8 * (q + 1) = 8 * q + 7 + 1 by omega]
  simp only [cntS, Nat.add_zero]
  unfold bitAt
  omega
theorem cntS_le (l : List Bool) (k : Nat) : cntS l k ≤ k := by
  induction k with
  | zero => exact Nat.le_refl _
  | succ k ih => rw [cntS]; have := Bool.toNat_le (bitAt l k); omega
set_option maxRecDepth 100000 in
theorem ones_calls (x : Int) (w : World) (h0 : 0 ≤ x) (h1 : x ≤ 255) :
    Calls Try.prog 62 #[.int .u8 x] w fun e w' => e = .returned (.int .i64 (Lib.onesCount x.toNat)) ∧ w = w' := by
  have HE : Aside0 (wrap64 (Lib.pop8 x) = (Lib.onesCount x.toNat : Int)) := ⟨by rw [← Lib.pop8_int x h0 h1]; unfold wrap64; rfl⟩
  go_enter Try.func62, Try.ntmps62
  go_wp2
  go_ret
  exact ⟨show Ending.returned (.int .i64 (wrap64 (Lib.pop8 x))) = _ by rw [HE.out], rfl⟩
set_option maxHeartbeats 1600000 in
set_option maxRecDepth 100000 in
theorem bits_Count_calls (gp : Nat) (l : List Bool) (base : Nat) (w : World) (hI : BRow w base gp l) (hl : l.length ≤ 4096) :
    Calls Try.prog 59 #[.pointer (some ⟨gp, 0, none⟩)] w fun e w' => e = .returned (.int .i64 (cntTo l l.length)) ∧ Below w.heap.size w w' := by
  have HI := Aside0.mk hI
  have HPL := Aside0.mk (Rowl.pack_length l)
  clear hI
  obtain ⟨j, hj⟩ : ∃ j, (Rowl.pack l).length = j := ⟨_, rfl⟩
  have hj1 : j ≤ 512 := by have := HPL.out; omega
  have HJ := Aside0.mk hj
  clear hj
  go_enter Try.func59, Try.ntmps59
  go_wp2_with (go_at_call 47; go_must (refine (bits_Bytes_calls gp l base _ HI.out hl).mono ?_); rintro e w1 ⟨v, rfl, ho, hb⟩; obtain ⟨A, c, rfl⟩ := Kd.R_slice ho; rw [HJ.out] at ho ⊢; have HR := Aside0.mk (Kd.R_reads' ho).2.2; have HB := Aside0.mk hb; clear ho hb)
  go_loop [3, 9] (fun t i => ∃ k : Nat, k ≤ j ∧ i = .int .i64 k ∧ t = .int .i64 (cntS l (8 * k) : Int)) (fun _ i => j - (intOf i).toNat)
  case atStart => exact ⟨0, Nat.zero_le _, rfl, rfl⟩
  case round =>
    obtain ⟨k, hk, rfl, rfl⟩ := hrel
    by_cases hlt : k < j
    · have hle := cntS_le l (8 * k)
      have HS := Aside0.mk (cntS_byte l k)
      have hq : k < (l.length + 7) / 8 := by have := HJ.out; have := HPL.out; omega
      obtain ⟨ad, hA, hx⟩ := Kd.at_int HR.out (k : Int) (by omega) (by rw [HJ.out]; omega)
      rw [Rowl.rd_pack l k hq, Int.toNat_natCast] at hx
      have hlt8 := Rowl.by8_lt (fun t => l.getD (8 * k + t) false)
      obtain ⟨y, hy⟩ : ∃ y, Rowl.by8 (fun t => l.getD (8 * k + t) false) = y := ⟨_, rfl⟩
      rw [hy] at hx HS hlt8
      subst hA
      have ho8 := Lib.onesCount_le8 ⟨y, hlt8⟩
      simp only at ho8
      clear hy hq
      go_wp2_with (go_at_call 62; go_must (refine (ones_calls (y : Int) _ (by omega) (by omega)).mono ?_); rw [Int.toNat_natCast]; rintro e w' ⟨rfl, rfl⟩)
      go_round
      case rel => exact ⟨k + 1, by omega, by go_num, by rw [HS.out]; go_num⟩
      case measure => simp [intOf]; omega
    · obtain rfl : k = j := by omega
      have HE : Aside0 (cntTo l l.length = (cntS l (8 * k) : Int)) := ⟨by
        rw [cntTo_S l _ (Nat.le_refl _)]
        have := HJ.out; have h2 := HPL.out
        obtain ⟨d, hd⟩ : ∃ d, 8 * k = l.length + d := ⟨8 * k - l.length, by omega⟩
        rw [hd, cntS_out]⟩
      go_wp2
      go_ret
      exact ⟨show Ending.returned (.int .i64 (cntS l (8 * k) : Int)) = _ by rw [HE.out], HB.out⟩
/-- From here on more is held. -/
theorem up_ {P : Program} {md : Region.Mode} {ops : Array Oper} {Q : Exit → Act → World → Prop} {S S' : World → Prop} (hup : ∀ w, S' w → S w) : ∀ (fuel : Nat) (listed : Array Bool) (a : Act) (w : World), S' w → wpAnyLast P md ops Q S' [] fuel listed a w → wpAnyLast P md ops Q S [] fuel listed a w
  | 0, _, _, _, _, h => h
  | fuel + 1, _, _, _, hS, h => ⟨h.1, fun i hi => wpOp_mono (fun a' w' h' => ⟨fun _ _ => hup _ (h'.1 (by simp) hS), up_ hup fuel _ a' w' (h'.1 (by simp) hS) h'.2⟩) (h.2 i hi)⟩
theorem up_to {P : Program} {md : Region.Mode} {ops : Array Oper} {Q : Exit → Act → World → Prop} {S : World → Prop} {fuel : Nat} {listed : Array Bool} {a : Act} {w : World} (T : World → Prop) (hS : S w) (hT : T w) (h : (S w ∧ T w) → wpAnyLast P md ops Q (fun w' => S w' ∧ T w') [] fuel listed a w) : wpAnyLast P md ops Q S [] fuel listed a w :=
  up_ (S' := fun w' => S w' ∧ T w') (fun _ h => h.1) fuel listed a w ⟨hS, hT⟩ (h ⟨hS, hT⟩)
def same_rt.T : Bool × List (List Nat × List Nat) := (true, [([], []), ([0], [0]), ([1], [1]), ([], []), ([3, 1], [3]), ([4], [4]), ([2, 5], [2, 5]), ([6, 4], [6]), ([7], [7]), ([8, 7, 7], [7, 8]), ([7], [7]), ([10, 9, 7], [7, 10]), ([9, 11, 7], [7, 9, 11]), ([7, 12], [7, 12]), ([13, 11], [13]), ([14], [14]), ([15, 14, 14], [14, 15]), ([14], [14]), ([17, 14], [14, 17]), ([18, 14], [14, 18]), ([19, 14], [14, 19]), ([20, 14], [14, 20]), ([16, 21, 14], [14, 16, 21]), ([14, 22], [14, 22]), ([23, 16, 0, 1, 2, 3, 4, 5, 6, 7, 8, 9, 10, 11, 12, 13, 14, 15, 16, 17, 18, 19, 20, 21, 22, 23], [23])])
def same_rt.B : List Nat := [0, 1, 3, 0, 11, 27, 63, 127, 255, 511, 255, 2047, 4095, 8191, 16383, 32767, 65535, 32767, 163839, 425983, 950271, 1998847, 4194303, 8388607, 16777215]
theorem same_rt.tab : rtab .any (opsOf Try.f46 1) = same_rt.T := by kernel_rfl
theorem same_rt.bits : waitsOk same_rt.T.2 same_rt.B = true := by kernel_rfl
set_option maxHeartbeats 2000000 in
set_option maxRecDepth 100000 in
theorem same_calls (gp gr : Nat) (l : List Bool) (base base2 : Nat) (w : World) (hI : BRow w base gp l) (hJ : RefRow w base2 gr l) (hl : l.length ≤ 4096) :
    Calls Try.prog 46 #[.pointer (some ⟨gp, 0, none⟩), .pointer (some ⟨gr, 0, none⟩)] w fun e w' => e = .returned (.bool true) ∧ Below w.heap.size w w' := by
  have HS0 : Aside0 (BRow w.drew base gp l ∧ RefRow w.drew base2 gr l ∧ Below w.heap.size w w.drew) := ⟨hI.below (below_drew (Below.refl _ _)), hJ.below (below_drew (Below.refl _ _)), below_drew (Below.refl _ _)⟩
  clear hI hJ
  go_enter Try.func46, Try.ntmps46
  go_upto_region 1 with (fail)
  refine start_ (n := 25) (S := fun w' => BRow w' base gp l ∧ RefRow w' base2 gr l ∧ Below w.heap.size w w') (ds := []) #[false, false, false, false, false, false, false, false, false, false, false, false, false, false, false, false, false, false, false, false, false, false, false, false, false] (by kernel_rfl) rfl rfl (HS0.out) (fun hHeld => ?_); refine with_tabW same_rt.tab same_rt.bits (fun HT_ HW_ => ?_)
  refine pure_ (i := 0) (N := some 5) (v := ?_) (a' := ?_) #[true, false, false, false, false, false, false, false, false, false, false, false, false, false, false, false, false, false, false, false, false, false, false, false, false] rfl rfl (any_of HT_.out (by kernel_rfl)) (fun _ _ _ h => h) (Or.inl ⟨by rfl, ?_⟩) ?_ ?_
  rotate_left
  · intro w'
    go_simp; first | done | with_reducible rfl
  rotate_left
  · simp only [Act.put, List.setIfInBounds_toArray, List.set_cons_zero, List.set_cons_succ, i64_w, i32_w]
    rfl
  refine pure_ (i := 3) (N := some 8) (v := ?_) (a' := ?_) #[true, false, false, true, false, false, false, false, false, false, false, false, false, false, false, false, false, false, false, false, false, false, false, false, false] rfl rfl (any_of HT_.out (by kernel_rfl)) (fun _ _ _ h => h) (Or.inl ⟨by rfl, ?_⟩) ?_ ?_
  rotate_left
  · intro w'
    go_simp; first | done | with_reducible rfl
  rotate_left
  · simp only [Act.put, List.setIfInBounds_toArray, List.set_cons_zero, List.set_cons_succ, i64_w, i32_w]
    rfl
  refine one_ (i := 1) (N := some 6) #[true, true, false, true, false, false, false, false, false, false, false, false, false, false, false, false, false, false, false, false, false, false, false, false, false] rfl rfl (one_of HT_.out (by kernel_rfl)) (by decide) (fun K hK => ?_)
  refine goes_ Try.func47 (by kernel_rfl) rfl #[.pointer (some ⟨gp, 0, none⟩)] (by rfl) rfl rfl (by (try simp only [List.map_toArray, List.map_cons, List.map_nil]); first | done | rfl) ?_
  refine (bits_Bytes_calls gp l base _ hHeld.1 hl).mono ?_
  rintro e w5 ⟨v1, rfl, ho, hb⟩
  refine ⟨_, rfl, ?_⟩
  obtain ⟨A1, c1, rfl⟩ := Kd.R_slice ho
  have hHeld := And.intro (hHeld.1.below hb) (And.intro (hHeld.2.1.below hb) (below_step hHeld.2.2 hb))
  have HC1 := Aside0.mk (Kd.R_reads' ho).2.2
  clear ho hb
  refine hK.out _ _ (hHeld) (fun hHeld => ?_)
  clear hK K
  refine norm_ (a' := ?_) ?_ ?_
  rotate_left
  · show Act.put _ (some 6) _ = _
    simp only [Act.put, List.setIfInBounds_toArray, List.set_cons_zero, List.set_cons_succ, i64_w, i32_w]
    rfl
  refine up_to (fun w' => Kd.C (Kd.int .u8) w' A1 (Rowl.pack l).length (Rowl.pack l)) hHeld HC1.out (fun hHeld => ?_)
  refine take_ (i := 2) (N := some 7) (v := ?_) (a' := ?_) #[true, true, true, true, false, false, false, false, false, false, false, false, false, false, false, false, false, false, false, false, false, false, false, false, false] rfl rfl (take_ofW HT_.out HW_.out (by kernel_rfl)) (fun _ _ _ h => h) (Or.inl ⟨by rfl, ?_⟩) hHeld ?_ ?_
  rotate_left
  · intro w' hS'
    have hcv := Kd.C_string (P := Try.prog) (n := (Rowl.pack l).length) (c := c1) Try.underlying28 Try.underlying5 Try.underlying9 (hS'.2)
    go_simp; first | done | with_reducible rfl
  rotate_left
  · simp only [Act.put, List.setIfInBounds_toArray, List.set_cons_zero, List.set_cons_succ, i64_w, i32_w]
    rfl
  refine one_ (i := 4) (N := some 9) #[true, true, true, true, true, false, false, false, false, false, false, false, false, false, false, false, false, false, false, false, false, false, false, false, false] rfl rfl (one_of HT_.out (by kernel_rfl)) (by decide) (fun K hK => ?_)
  refine goes_ Try.func58 (by kernel_rfl) rfl #[.pointer (some ⟨gr, 0, none⟩)] (by rfl) rfl rfl (by (try simp only [List.map_toArray, List.map_cons, List.map_nil]); first | done | rfl) ?_
  refine (ref_Bytes_calls gr l base2 _ hHeld.1.2.1 hl).mono ?_
  rintro e w6 ⟨v2, rfl, ho, hb⟩
  refine ⟨_, rfl, ?_⟩
  obtain ⟨A2, c2, rfl⟩ := Kd.R_slice ho
  have hHeld := And.intro (And.intro (hHeld.1.1.below hb) (And.intro (hHeld.1.2.1.below hb) (below_step hHeld.1.2.2 hb))) (Kd.C_below hHeld.2 hb)
  have HC2 := Aside0.mk (Kd.R_reads' ho).2.2
  clear ho hb
  refine hK.out _ _ (hHeld) (fun hHeld => ?_)
  clear hK K
  refine norm_ (a' := ?_) ?_ ?_
  rotate_left
  · show Act.put _ (some 9) _ = _
    simp only [Act.put, List.setIfInBounds_toArray, List.set_cons_zero, List.set_cons_succ, i64_w, i32_w]
    rfl
  refine up_to (fun w' => Kd.C (Kd.int .u8) w' A2 (Rowl.pack l).length (Rowl.pack l)) hHeld HC2.out (fun hHeld => ?_)
  refine take_ (i := 5) (N := some 10) (v := ?_) (a' := ?_) #[true, true, true, true, true, true, false, false, false, false, false, false, false, false, false, false, false, false, false, false, false, false, false, false, false] rfl rfl (take_ofW HT_.out HW_.out (by kernel_rfl)) (fun _ _ _ h => h) (Or.inl ⟨by rfl, ?_⟩) hHeld ?_ ?_
  rotate_left
  · intro w' hS'
    have hcv := Kd.C_string (P := Try.prog) (n := (Rowl.pack l).length) (c := c2) Try.underlying28 Try.underlying5 Try.underlying9 (hS'.2)
    go_simp; first | done | with_reducible rfl
  rotate_left
  · simp only [Act.put, List.setIfInBounds_toArray, List.set_cons_zero, List.set_cons_succ, i64_w, i32_w]
    rfl
  refine pure_ (i := 6) (N := some 11) (v := ?_) (a' := ?_) #[true, true, true, true, true, true, true, false, false, false, false, false, false, false, false, false, false, false, false, false, false, false, false, false, false] rfl rfl (any_of HT_.out (by kernel_rfl)) (fun _ _ _ h => h) (Or.inl ⟨by rfl, ?_⟩) ?_ ?_
  rotate_left
  · intro w'
    go_simp; first | done | with_reducible rfl
  rotate_left
  · simp only [Act.put, List.setIfInBounds_toArray, List.set_cons_zero, List.set_cons_succ, i64_w, i32_w]
    rfl
  refine pure_ (i := 7) (N := some 12) (v := ?_) (a' := ?_) #[true, true, true, true, true, true, true, true, false, false, false, false, false, false, false, false, false, false, false, false, false, false, false, false, false] rfl rfl (any_of HT_.out (by kernel_rfl)) (fun _ _ _ h => h) (Or.inl ⟨by rfl, ?_⟩) ?_ ?_
  rotate_left
  · intro w'
    go_simp; first | done | with_reducible rfl
  rotate_left
  · simp only [Act.put, List.setIfInBounds_toArray, List.set_cons_zero, List.set_cons_succ, i64_w, i32_w]
    rfl
  refine pure_ (i := 8) (N := some 13) (v := ?_) (a' := ?_) #[true, true, true, true, true, true, true, true, true, false, false, false, false, false, false, false, false, false, false, false, false, false, false, false, false] rfl rfl (any_of HT_.out (by kernel_rfl)) (fun _ _ _ h => h) (Or.inl ⟨by rfl, ?_⟩) ?_ ?_
  rotate_left
  · intro w'
    go_simp; first | done | with_reducible rfl
  rotate_left
  · simp only [Act.put, List.setIfInBounds_toArray, List.set_cons_zero, List.set_cons_succ, i64_w, i32_w]
    rfl
  refine pure_ (i := 10) (N := some 15) (v := ?_) (a' := ?_) #[true, true, true, true, true, true, true, true, true, false, true, false, false, false, false, false, false, false, false, false, false, false, false, false, false] rfl rfl (any_of HT_.out (by kernel_rfl)) (fun _ _ _ h => h) (Or.inl ⟨by rfl, ?_⟩) ?_ ?_
  rotate_left
  · intro w'
    go_simp; first | done | with_reducible rfl
  rotate_left
  · simp only [Act.put, List.setIfInBounds_toArray, List.set_cons_zero, List.set_cons_succ, i64_w, i32_w]
    rfl
  refine one_ (i := 9) (N := some 14) #[true, true, true, true, true, true, true, true, true, true, true, false, false, false, false, false, false, false, false, false, false, false, false, false, false] rfl rfl (one_of HT_.out (by kernel_rfl)) (by decide) (fun K hK => ?_)
  refine goes_ Try.func59 (by kernel_rfl) rfl #[.pointer (some ⟨gp, 0, none⟩)] (by rfl) rfl rfl (by (try simp only [List.map_toArray, List.map_cons, List.map_nil]); first | done | rfl) ?_
  refine (bits_Count_calls gp l base _ hHeld.1.1.1 hl).mono ?_
  rintro e w7 ⟨rfl, hb⟩
  refine ⟨_, rfl, ?_⟩
  have hHeld := And.intro (And.intro (And.intro (hHeld.1.1.1.below hb) (And.intro (hHeld.1.1.2.1.below hb) (below_step hHeld.1.1.2.2 hb))) (Kd.C_below hHeld.1.2 hb)) (Kd.C_below hHeld.2 hb)
  clear hb
  refine hK.out _ _ (hHeld) (fun hHeld => ?_)
  clear hK K
  refine norm_ (a' := ?_) ?_ ?_
  rotate_left
  · show Act.put _ (some 14) _ = _
    simp only [Act.put, List.setIfInBounds_toArray, List.set_cons_zero, List.set_cons_succ, i64_w, i32_w]
    rfl
  refine one_ (i := 11) (N := some 16) #[true, true, true, true, true, true, true, true, true, true, true, true, false, false, false, false, false, false, false, false, false, false, false, false, false] rfl rfl (one_of HT_.out (by kernel_rfl)) (by decide) (fun K hK => ?_)
  refine goes_ Try.func60 (by kernel_rfl) rfl #[.pointer (some ⟨gr, 0, none⟩)] (by rfl) rfl rfl (by (try simp only [List.map_toArray, List.map_cons, List.map_nil]); first | done | rfl) ?_
  refine (ref_Count_calls gr l base2 _ hHeld.1.1.2.1 hl).mono ?_
  rintro e w8 ⟨rfl, rfl⟩
  refine ⟨_, rfl, ?_⟩
  refine hK.out _ _ (hHeld) (fun hHeld => ?_)
  clear hK K
  refine norm_ (a' := ?_) ?_ ?_
  rotate_left
  · show Act.put _ (some 16) _ = _
    simp only [Act.put, List.setIfInBounds_toArray, List.set_cons_zero, List.set_cons_succ, i64_w, i32_w]
    rfl
  obtain ⟨A9, c9, hc9, _⟩ := hHeld.1.1.2.1.open_
  refine up_to (fun w' => w'.cell? ⟨gr, 0, none⟩ = some (.slice A9 l.length c9)) hHeld hc9 (fun hHeld => ?_)
  clear hc9
  refine pure_ (i := 12) (N := some 17) (v := ?_) (a' := ?_) #[true, true, true, true, true, true, true, true, true, true, true, true, true, false, false, false, false, false, false, false, false, false, false, false, false] rfl rfl (any_of HT_.out (by kernel_rfl)) (fun _ _ _ h => h) (Or.inl ⟨by rfl, ?_⟩) ?_ ?_
  rotate_left
  · intro w'
    go_simp; first | done | with_reducible rfl
  rotate_left
  · simp only [Act.put, List.setIfInBounds_toArray, List.set_cons_zero, List.set_cons_succ, i64_w, i32_w]
    rfl
  refine pure_ (i := 13) (N := some 18) (v := ?_) (a' := ?_) #[true, true, true, true, true, true, true, true, true, true, true, true, true, true, false, false, false, false, false, false, false, false, false, false, false] rfl rfl (any_of HT_.out (by kernel_rfl)) (fun _ _ _ h => h) (Or.inl ⟨by rfl, ?_⟩) ?_ ?_
  rotate_left
  · intro w'
    go_simp; first | done | with_reducible rfl
  rotate_left
  · simp only [Act.put, List.setIfInBounds_toArray, List.set_cons_zero, List.set_cons_succ, i64_w, i32_w]
    rfl
  refine pure_ (i := 14) (N := some 19) (v := ?_) (a' := ?_) #[true, true, true, true, true, true, true, true, true, true, true, true, true, true, true, false, false, false, false, false, false, false, false, false, false] rfl rfl (any_of HT_.out (by kernel_rfl)) (fun _ _ _ h => h) (Or.inl ⟨by rfl, ?_⟩) ?_ ?_
  rotate_left
  · intro w'
    go_simp; first | done | with_reducible rfl
  rotate_left
  · simp only [Act.put, List.setIfInBounds_toArray, List.set_cons_zero, List.set_cons_succ, i64_w, i32_w]
    rfl
  refine pure_ (i := 15) (N := some 20) (v := ?_) (a' := ?_) #[true, true, true, true, true, true, true, true, true, true, true, true, true, true, true, true, false, false, false, false, false, false, false, false, false] rfl rfl (any_of HT_.out (by kernel_rfl)) (fun _ _ _ h => h) (Or.inl ⟨by rfl, ?_⟩) ?_ ?_
  rotate_left
  · intro w'
    go_simp; first | done | with_reducible rfl
  rotate_left
  · simp only [Act.put, List.setIfInBounds_toArray, List.set_cons_zero, List.set_cons_succ, i64_w, i32_w]
    rfl
  refine pure_ (i := 17) (N := some 22) (v := ?_) (a' := ?_) #[true, true, true, true, true, true, true, true, true, true, true, true, true, true, true, true, false, true, false, false, false, false, false, false, false] rfl rfl (any_of HT_.out (by kernel_rfl)) (fun _ _ _ h => h) (Or.inl ⟨by rfl, ?_⟩) ?_ ?_
  rotate_left
  · intro w'
    go_simp; first | done | with_reducible rfl
  rotate_left
  · simp only [Act.put, List.setIfInBounds_toArray, List.set_cons_zero, List.set_cons_succ, i64_w, i32_w]
    rfl
  refine pure_ (i := 18) (N := some 23) (v := ?_) (a' := ?_) #[true, true, true, true, true, true, true, true, true, true, true, true, true, true, true, true, false, true, true, false, false, false, false, false, false] rfl rfl (any_of HT_.out (by kernel_rfl)) (fun _ _ _ h => h) (Or.inl ⟨by rfl, ?_⟩) ?_ ?_
  rotate_left
  · intro w'
    go_simp; first | done | with_reducible rfl
  rotate_left
  · simp only [Act.put, List.setIfInBounds_toArray, List.set_cons_zero, List.set_cons_succ, i64_w, i32_w]
    rfl
  refine pure_ (i := 19) (N := some 24) (v := ?_) (a' := ?_) #[true, true, true, true, true, true, true, true, true, true, true, true, true, true, true, true, false, true, true, true, false, false, false, false, false] rfl rfl (any_of HT_.out (by kernel_rfl)) (fun _ _ _ h => h) (Or.inl ⟨by rfl, ?_⟩) ?_ ?_
  rotate_left
  · intro w'
    go_simp; first | done | with_reducible rfl
  rotate_left
  · simp only [Act.put, List.setIfInBounds_toArray, List.set_cons_zero, List.set_cons_succ, i64_w, i32_w]
    rfl
  refine take_ (i := 20) (N := some 25) (v := ?_) (a' := ?_) #[true, true, true, true, true, true, true, true, true, true, true, true, true, true, true, true, false, true, true, true, true, false, false, false, false] rfl rfl (take_ofW HT_.out HW_.out (by kernel_rfl)) (fun _ _ _ h => h) (Or.inl ⟨by rfl, ?_⟩) hHeld ?_ ?_
  rotate_left
  · intro w' hS'
    have hc9 := hS'.2
    go_simp; first | done | with_reducible rfl
  rotate_left
  · simp only [Act.put, List.setIfInBounds_toArray, List.set_cons_zero, List.set_cons_succ, i64_w, i32_w]
    rfl
  refine pure_ (i := 21) (N := some 26) (v := ?_) (a' := ?_) #[true, true, true, true, true, true, true, true, true, true, true, true, true, true, true, true, false, true, true, true, true, true, false, false, false] rfl rfl (any_of HT_.out (by kernel_rfl)) (fun _ _ _ h => h) (Or.inl ⟨by rfl, ?_⟩) ?_ ?_
  rotate_left
  · intro w'
    go_simp; first | done | with_reducible rfl
  rotate_left
  · simp only [Act.put, List.setIfInBounds_toArray, List.set_cons_zero, List.set_cons_succ, i64_w, i32_w]
    rfl
  refine one_ (i := 16) (N := some 21) #[true, true, true, true, true, true, true, true, true, true, true, true, true, true, true, true, true, true, true, true, true, true, false, false, false] rfl rfl (one_of HT_.out (by kernel_rfl)) (by decide) (fun K hK => ?_)
  refine goes_ Try.func43 (by kernel_rfl) rfl #[.pointer (some ⟨gp, 0, none⟩)] (by rfl) rfl rfl (by (try simp only [List.map_toArray, List.map_cons, List.map_nil]); first | done | rfl) ?_
  refine (bits_Len_calls gp l base _ hHeld.1.1.1.1).mono ?_
  rintro e w9 ⟨rfl, rfl⟩
  refine ⟨_, rfl, ?_⟩
  refine hK.out _ _ (hHeld) (fun hHeld => ?_)
  clear hK K
  refine norm_ (a' := ?_) ?_ ?_
  rotate_left
  · show Act.put _ (some 21) _ = _
    simp only [Act.put, List.setIfInBounds_toArray, List.set_cons_zero, List.set_cons_succ, i64_w, i32_w]
    rfl
  refine pure_ (i := 22) (N := some 27) (v := ?_) (a' := ?_) #[true, true, true, true, true, true, true, true, true, true, true, true, true, true, true, true, true, true, true, true, true, true, true, false, false] rfl rfl (any_of HT_.out (by kernel_rfl)) (fun _ _ _ h => h) (Or.inl ⟨by rfl, ?_⟩) ?_ ?_
  rotate_left
  · intro w'
    go_simp; first | done | with_reducible rfl
  rotate_left
  · simp only [Act.put, List.setIfInBounds_toArray, List.set_cons_zero, List.set_cons_succ, i64_w, i32_w]
    rfl
  refine pure_ (i := 23) (N := some 28) (v := ?_) (a' := ?_) #[true, true, true, true, true, true, true, true, true, true, true, true, true, true, true, true, true, true, true, true, true, true, true, true, false] rfl rfl (any_of HT_.out (by kernel_rfl)) (fun _ _ _ h => h) (Or.inl ⟨by rfl, ?_⟩) ?_ ?_
  rotate_left
  · intro w'
    go_simp; first | done | with_reducible rfl
  rotate_left
  · simp only [Act.put, List.setIfInBounds_toArray, List.set_cons_zero, List.set_cons_succ, i64_w, i32_w]
    rfl
  refine pure_ (i := 24) (N := some 4) (v := ?_) (a' := ?_) #[true, true, true, true, true, true, true, true, true, true, true, true, true, true, true, true, true, true, true, true, true, true, true, true, true] rfl rfl (any_of HT_.out (by kernel_rfl)) (fun _ _ _ h => h) (Or.inl ⟨by rfl, ?_⟩) ?_ ?_
  rotate_left
  · intro w'
    go_simp; first | done | with_reducible rfl
  rotate_left
  · simp only [Act.put, List.setIfInBounds_toArray, List.set_cons_zero, List.set_cons_succ, i64_w, i32_w]
    rfl
  refine done_ (done_of HT_.out (by kernel_rfl)) ?_
  have HB := Aside0.mk hHeld.1.1.1.2.2
  clear HT_ HW_ hHeld
  go_wp2
  go_ret
  exact ⟨by first | rfl | simp, HB.out⟩
theorem pack_zero (n : Nat) : Rowl.pack (List.replicate n false) = List.replicate ((n + 7) / 8) 0 := by
  have h := packTo_zero (List.replicate n false)
  rw [List.length_replicate] at h
  rw [← h]
  unfold packTo
  rw [List.take_zero, List.nil_append, List.length_replicate, Nat.sub_zero]
theorem bits_New_row (n : Int) (w : World) : Calls Try.prog 51 #[.int .i64 n] w fun e w' => ∃ g, e = .returned (.pointer (some ⟨g, 0, none⟩)) ∧ BRow w' w.heap.size g (List.replicate (clampRow n).toNat false) ∧ Below w.heap.size w w' := by
  refine (bits_New_calls n w).mono ?_
  rintro e w' ⟨g, v, he, hbk, ho, hg, hb⟩
  have h0 := clampRow_0 n
  have h1 := clampRow_1 n
  obtain ⟨A, c, rfl⟩ := Kd.R_slice ho
  have e2 : (rowBytes (clampRow n)).toNat = ((clampRow n).toNat + 7) / 8 := by unfold rowBytes; rw [Int.tdiv_eq_ediv_of_nonneg (by omega)]; omega
  rw [e2] at ho hbk
  refine ⟨g, he, ?_, hb⟩
  unfold BRow
  rw [pack_zero, List.length_replicate, Int.toNat_of_nonneg h0]
  exact ⟨A, c, hbk, ho, hg⟩
theorem bits_Of_row (n : Nat) (A0 : Option Addr) (c0 : Nat) (b : List Int) (w : World) (hr0 : Kd.C (Kd.int .u8) w A0 b.length b) (hc0 : b.length ≤ c0) (hby : Num.Bytes b) (h : OfOk (n : Int) b) :
    Calls Try.prog 41 #[.int .i64 n, .slice A0 b.length c0] w fun e w' => ∃ g, e = .returned (.tuple #[.pointer (some ⟨g, 0, none⟩), .int .i64 0]) ∧ BRow w' w.heap.size g (Rowl.unpack n b) ∧ Below w.heap.size w w' := by
  refine (bits_Of_ok (n : Int) A0 c0 b w hr0 hc0 h).mono ?_
  rintro e w' ⟨g, he, ho, hb⟩
  refine ⟨g, he, ?_, hb⟩
  unfold BRow
  rw [pack_of hby h, Rowl.unpack_length]
  exact ho
theorem setBit_pack (l : List Bool) (i : Nat) (on : Bool) (h : i < l.length) : setBit (Rowl.pack l) (i : Int) on = Rowl.pack (l.set i on) := by
  unfold setBit
  rw [show ((i : Int)).tdiv 8 = ((i / 8 : Nat) : Int) by rw [Int.tdiv_eq_ediv_of_nonneg (by omega)]; omega, show ((i : Int)).tmod 8 = ((i % 8 : Nat) : Int) from tmod_nat i 8, Int.toNat_natCast]
  cases on
  · exact Rowl.pack_not l i h
  · exact Rowl.pack_or l i h
set_option maxHeartbeats 800000 in
set_option maxRecDepth 100000 in
theorem bits_Set_on (g : Nat) (i n : Int) (b : List Int) (w0 w : World) (base : Nat) (hI : OwnRow_ w base g n b) (hB : Below base w0 w) (h0 : 0 ≤ i) (h1 : i < n) (h2 : i.tdiv 8 < (b.length : Int)) (hbl : b.length ≤ 512) :
    Calls Try.prog 53 #[.pointer (some ⟨g, 0, none⟩), .int .i64 i, .bool true] w fun e w' => e = .returned (.int .i64 0) ∧ OwnRow_ w' base g n (setBit b i true) ∧ Below base w0 w' ∧ TyKeep 5 w w' := by
  obtain ⟨A, c, hbk, ho, hg⟩ := hI
  have BK := Aside0.mk hbk
  have HG := Aside0.mk hg
  have HB := Aside0.mk hB
  have hc0 : w.cell? ⟨g, 0, none⟩ = some (.int .i64 n) := (blk_cell BK.out 0).trans rfl
  have hc1 : w.cell? ⟨g, 1, none⟩ = some (.slice A b.length c) := (blk_cell BK.out 1).trans rfl
  have hf0 := blk_frozen BK.out 0
  have hf1 := blk_frozen BK.out 1
  have d1 : decide (i < 0) = false := decide_eq_false (by omega)
  have d2 : decide (n ≤ i) = false := decide_eq_false (by omega)
  obtain ⟨q, hq⟩ : ∃ q, i.tdiv 8 = q := ⟨_, rfl⟩
  obtain ⟨tm, htm⟩ : ∃ tm, i.tmod 8 = tm := ⟨_, rfl⟩
  have hq0 : 0 ≤ q := by rw [← hq, Int.tdiv_eq_ediv_of_nonneg h0]; omega
  have t0 : 0 ≤ tm ∧ tm < 8 := by rw [← htm, Int.tmod_eq_emod_of_nonneg h0]; omega
  rw [hq] at h2
  have hpos : 0 < b.length := by omega
  obtain ⟨ga, ca, hform, gb, _⟩ := Kd.R_form ho hpos
  injection hform with hA hln hcc
  subst hA
  clear hln hcc
  have HNE := Aside0.mk (show g ≠ ga from fun e => absurd (ho.1 ga rfl) (by rw [e]; exact Nat.lt_irrefl _))
  have GB := Aside0.mk gb
  obtain ⟨hx0, hfx⟩ := Kd.R_cell 0 ho q hq0 h2
  have hx : w.cell? ⟨ga, q.toNat, none⟩ = some (.int .u8 (rd b q)) := hx0
  clear hx0
  obtain ⟨sv, hsv⟩ : ∃ sv, shl .u8 1 tm = sv := ⟨_, rfl⟩
  have e6 : (2 : Int) ^ min tm.toNat 8 % 256 = sv := by rw [← hsv]; unfold shl; rw [IntKind.wrap_u8, Int.one_mul]; rfl
  have e2 : IntKind.u64.wrap tm = tm := by rw [IntKind.wrap_u64]; omega
  have e5 : IntKind.i64.wrap q = q := by rw [i64_w]; unfold wrap64; omega
  have p1 : (0 ≤ q) = True := eq_true hq0
  have p2 : (q < (b.length : Int)) = True := eq_true h2
  have p3 : (0 ≤ tm) = True := eq_true (by omega)
  have p4 : decide (0 ≤ tm) = true := decide_eq_true (by omega)
  have HP := Aside0.mk (Kd.R_putg ho q (Go.bits .or .u8 (rd b q) sv))
  have HO := Aside0.mk ho
  have hset : setBit b i true = b.set q.toNat (Go.bits .or .u8 (rd b q) sv) := by unfold setBit; rw [hq, htm, hsv]; rfl
  rw [hset]
  obtain ⟨cells, hty⟩ := Kd.R_typed ho ga rfl
  have TK := Aside0.mk (TyKeep.set_ hty q.toNat (.int .u8 (Go.bits .or .u8 (rd b q) sv)))
  clear hty
  clear hbk ho hg hB gb hset h0 h1 h2 hq0 t0 hpos hbl hsv
  go_enter Try.func53, Try.ntmps53
  go_wp2
  go_ret
  refine ⟨rfl, ⟨some ⟨ga, 0, none⟩, c, ?_, ?_, HG.out⟩, HB.out.setCell GB.out _, TK.out⟩
  · rw [List.length_set]; exact blk_far BK.out HNE.out _
  · rw [List.length_set]; exact HP.out.1
set_option maxHeartbeats 800000 in
set_option maxRecDepth 100000 in
theorem bits_Set_off (g : Nat) (i n : Int) (b : List Int) (w0 w : World) (base : Nat) (hI : OwnRow_ w base g n b) (hB : Below base w0 w) (h0 : 0 ≤ i) (h1 : i < n) (h2 : i.tdiv 8 < (b.length : Int)) (hbl : b.length ≤ 512) :
    Calls Try.prog 53 #[.pointer (some ⟨g, 0, none⟩), .int .i64 i, .bool false] w fun e w' => e = .returned (.int .i64 0) ∧ OwnRow_ w' base g n (setBit b i false) ∧ Below base w0 w' ∧ TyKeep 5 w w' := by
  obtain ⟨A, c, hbk, ho, hg⟩ := hI
  have BK := Aside0.mk hbk
  have HG := Aside0.mk hg
  have HB := Aside0.mk hB
  have hc0 : w.cell? ⟨g, 0, none⟩ = some (.int .i64 n) := (blk_cell BK.out 0).trans rfl
  have hc1 : w.cell? ⟨g, 1, none⟩ = some (.slice A b.length c) := (blk_cell BK.out 1).trans rfl
  have hf0 := blk_frozen BK.out 0
  have hf1 := blk_frozen BK.out 1
  have d1 : decide (i < 0) = false := decide_eq_false (by omega)
  have d2 : decide (n ≤ i) = false := decide_eq_false (by omega)
  obtain ⟨q, hq⟩ : ∃ q, i.tdiv 8 = q := ⟨_, rfl⟩
  obtain ⟨tm, htm⟩ : ∃ tm, i.tmod 8 = tm := ⟨_, rfl⟩
  have hq0 : 0 ≤ q := by rw [← hq, Int.tdiv_eq_ediv_of_nonneg h0]; omega
  have t0 : 0 ≤ tm ∧ tm < 8 := by rw [← htm, Int.tmod_eq_emod_of_nonneg h0]; omega
  rw [hq] at h2
  have hpos : 0 < b.length := by omega
  obtain ⟨ga, ca, hform, gb, _⟩ := Kd.R_form ho hpos
  injection hform with hA hln hcc
  subst hA
  clear hln hcc
  have HNE := Aside0.mk (show g ≠ ga from fun e => absurd (ho.1 ga rfl) (by rw [e]; exact Nat.lt_irrefl _))
  have GB := Aside0.mk gb
  obtain ⟨hx0, hfx⟩ := Kd.R_cell 0 ho q hq0 h2
  have hx : w.cell? ⟨ga, q.toNat, none⟩ = some (.int .u8 (rd b q)) := hx0
  clear hx0
  obtain ⟨sv, hsv⟩ : ∃ sv, shl .u8 1 tm = sv := ⟨_, rfl⟩
  have e6 : (2 : Int) ^ min tm.toNat 8 % 256 = sv := by rw [← hsv]; unfold shl; rw [IntKind.wrap_u8, Int.one_mul]; rfl
  have e2 : IntKind.u64.wrap tm = tm := by rw [IntKind.wrap_u64]; omega
  have e5 : IntKind.i64.wrap q = q := by rw [i64_w]; unfold wrap64; omega
  have p1 : (0 ≤ q) = True := eq_true hq0
  have p2 : (q < (b.length : Int)) = True := eq_true h2
  have p3 : (0 ≤ tm) = True := eq_true (by omega)
  have p4 : decide (0 ≤ tm) = true := decide_eq_true (by omega)
  have HP := Aside0.mk (Kd.R_putg ho q (Go.bits .andNot .u8 (rd b q) sv))
  have HO := Aside0.mk ho
  have hset : setBit b i false = b.set q.toNat (Go.bits .andNot .u8 (rd b q) sv) := by unfold setBit; rw [hq, htm, hsv]; rfl
  rw [hset]
  obtain ⟨cells, hty⟩ := Kd.R_typed ho ga rfl
  have TK := Aside0.mk (TyKeep.set_ hty q.toNat (.int .u8 (Go.bits .andNot .u8 (rd b q) sv)))
  clear hty
  clear hbk ho hg hB gb hset h0 h1 h2 hq0 t0 hpos hbl hsv
  go_enter Try.func53, Try.ntmps53
  go_wp2
  go_ret
  refine ⟨rfl, ⟨some ⟨ga, 0, none⟩, c, ?_, ?_, HG.out⟩, HB.out.setCell GB.out _, TK.out⟩
  · rw [List.length_set]; exact blk_far BK.out HNE.out _
  · rw [List.length_set]; exact HP.out.1
set_option maxRecDepth 100000 in
theorem bits_Set_in (g : Nat) (l : List Bool) (i : Nat) (on : Bool) (base : Nat) (w0 w : World) (hI : BRow w base g l) (hB : Below base w0 w) (h : i < l.length) (hl : l.length ≤ 4096) :
    Calls Try.prog 53 #[.pointer (some ⟨g, 0, none⟩), .int .i64 i, .bool on] w fun e w' => e = .returned (.int .i64 0) ∧ BRow w' base g (l.set i on) ∧ Below base w0 w' ∧ TyKeep 5 w w' := by
  have hp := Rowl.pack_length l
  have hq : ((i : Int)).tdiv 8 = ((i / 8 : Nat) : Int) := by rw [Int.tdiv_eq_ediv_of_nonneg (by omega)]; omega
  unfold BRow
  rw [← setBit_pack l i on h, List.length_set]
  cases on
  · exact bits_Set_off g i (l.length : Int) (Rowl.pack l) w0 w base hI hB (by omega) (by omega) (by rw [hq, hp]; omega) (by omega)
  · exact bits_Set_on g i (l.length : Int) (Rowl.pack l) w0 w base hI hB (by omega) (by omega) (by rw [hq, hp]; omega) (by omega)
set_option maxRecDepth 100000 in
theorem bits_Set_out (g : Nat) (l : List Bool) (i : Int) (on : Bool) (base : Nat) (w : World) (hI : BRow w base g l) (h : i < 0 ∨ (l.length : Int) ≤ i) :
    Calls Try.prog 53 #[.pointer (some ⟨g, 0, none⟩), .int .i64 i, .bool on] w fun e w' => e = .returned (.int .i64 1) ∧ w = w' := by
  obtain ⟨A, c, hc0, hc1, hf0, hf1, hin⟩ := hI.open_
  clear hI hin
  by_cases h0 : i < 0
  · have d1 : decide (i < 0) = true := decide_eq_true h0
    go_enter Try.func53, Try.ntmps53
    go_wp2
    go_ret
    exact ⟨rfl, rfl⟩
  · have d1 : decide (i < 0) = false := decide_eq_false h0
    have d2 : decide ((l.length : Int) ≤ i) = true := decide_eq_true (by omega)
    go_enter Try.func53, Try.ntmps53
    go_wp2
    go_ret
    exact ⟨rfl, rfl⟩
def play_rt8.T : Bool × List (List Nat × List Nat) := (true, [([], []), ([0], [0]), ([1], [1]), ([2], [2]), ([3], [3]), ([3], [3]), ([5, 3], [3, 5]), ([3], [3]), ([7, 3], [3, 7]), ([4, 6, 8, 3, 3], [3, 4, 6, 8]), ([3], [3]), ([3], [3]), ([11, 3], [3, 11]), ([3], [3]), ([13, 3], [3, 13]), ([10, 12, 14, 9, 3], [3, 10, 12, 14]), ([9, 15, 3], [3, 9, 15]), ([3, 16], [3, 16])])
def play_rt8.B : List Nat := [0, 1, 3, 7, 15, 15, 47, 15, 143, 511, 15, 15, 2063, 15, 8207, 32767, 65535, 131071]
theorem play_rt8.tab : rtab .any (opsOf Try.f10 8) = play_rt8.T := by kernel_rfl
theorem play_rt8.bits : waitsOk play_rt8.T.2 play_rt8.B = true := by kernel_rfl
def play_rt10.T : Bool × List (List Nat × List Nat) := (true, [([], []), ([], []), ([1], [1]), ([0, 2], [0, 2]), ([], []), ([], []), ([5], [5]), ([4, 6, 3], [4, 6]), ([3, 7], [3, 7]), ([8, 7], [8]), ([9], [9]), ([9], [9]), ([11, 9], [9, 11]), ([10, 12, 9, 9], [9, 10, 12]), ([9], [9]), ([9], [9]), ([15, 9], [9, 15]), ([14, 16, 13, 9], [9, 14, 16]), ([13, 17, 9], [9, 13, 17]), ([9, 18], [9, 18]), ([19, 17], [19]), ([20], [20]), ([20], [20]), ([22, 20], [20, 22]), ([21, 23, 20, 20], [20, 21, 23]), ([20], [20]), ([20], [20]), ([26, 20], [20, 26]), ([25, 27, 24, 20], [20, 25, 27]), ([24, 28, 20], [20, 24, 28]), ([20, 29], [20, 29]), ([30, 28], [30]), ([31], [31]), ([31], [31]), ([32, 33, 31, 31], [31, 32, 33]), ([34, 31], [31, 34]), ([31, 35], [31, 35])])
def play_rt10.B : List Nat := [0, 0, 2, 7, 0, 0, 32, 127, 255, 511, 1023, 1023, 3071, 8191, 1023, 1023, 33791, 131071, 262143, 524287, 1048575, 2097151, 2097151, 6291455, 16777215, 2097151, 2097151, 69206015, 268435455, 536870911, 1073741823, 2147483647, 4294967295, 4294967295, 17179869183, 34359738367, 68719476735]
theorem play_rt10.tab : rtab .any (opsOf Try.f10 10) = play_rt10.T := by kernel_rfl
theorem play_rt10.bits : waitsOk play_rt10.T.2 play_rt10.B = true := by kernel_rfl
set_option maxHeartbeats 800000 in
set_option maxRecDepth 100000 in
theorem ashlarlaw01_BitsPlay.long (A0 : Option Addr) (n : Int) (len c0 : Nat) (w : World) (h : 200 < len) : Calls Try.prog 10 #[.int .i64 n, .slice A0 len c0] w fun e w' => e = .returned (.bool true) ∧ Below w.heap.size w w' := by
  have q1 : decide (200 < len) = true := decide_eq_true h
  have q2 : decide ((200 : Int) < (len : Int)) = true := decide_eq_true (by omega)
  clear h
  have HB := Aside0.mk (Below.refl w.heap.size w)
  go_enter Try.func10, Try.ntmps10
  go_wp2_with (first
    | (go_at_call 40; go_must (refine (bits_awake _).mono ?_); rintro e w1 ⟨rfl, hb⟩; have HB1 := Aside0.mk (below_step HB.out hb); clear HB hb; have HB := HB1; clear HB1))
  go_ret
  exact ⟨by simp, HB.out⟩
theorem BRow.lower {W : World} {base base' g : Nat} {l : List Bool} (h : BRow W base g l) (hb : base' ≤ base) : BRow W base' g l := by
  obtain ⟨A, c, hbk, ho, hg⟩ := h
  exact ⟨A, c, hbk, Kd.R_lower ho hb, by omega⟩
theorem RefRow.lower {W : World} {base base' g : Nat} {l : List Bool} (h : RefRow W base g l) (hb : base' ≤ base) : RefRow W base' g l := by
  obtain ⟨A, c, hbk, ho⟩ := h
  exact ⟨A, c, hbk, Kd.R_lower ho hb⟩
/-- What a script's cells hold. -/
def Script (w : World) (A0 : Option Addr) (len : Nat) : Prop := ∀ i, i < len → ∃ x kd ii on, A0 = some x ∧ w.cell? (x.add (i * 3)) = some (.int .i64 kd) ∧ w.cell? (x.add (i * 3 + 1)) = some (.int .i64 ii) ∧ w.cell? (x.add (i * 3 + 2)) = some (.bool on) ∧ ii ≤ 9223372036854775807
set_option maxHeartbeats 8000000 in
set_option maxRecDepth 100000 in
theorem ashlarlaw01_BitsPlay.short (A0 : Option Addr) (n : Int) (len c0 : Nat) (w : World) (h : len ≤ 200) (hs : Script w A0 len) : Calls Try.prog 10 #[.int .i64 n, .slice A0 len c0] w fun e w' => e = .returned (.bool true) ∧ Below w.heap.size w w' := by
  have q1 : decide (200 < len) = false := decide_eq_false (by omega)
  have q2 : decide ((200 : Int) < (len : Int)) = false := decide_eq_false (by omega)
  have HSC := Aside0.mk hs
  obtain ⟨N, hN⟩ : ∃ N, (clampRow n).toNat = N := ⟨_, rfl⟩
  have hN1 : N ≤ 4096 := by have := clampRow_1 n; omega
  have HN := Aside0.mk hN
  clear hs hN
  go_enter Try.func10, Try.ntmps10
  go_wp2_with (first
    | (go_at_call 40; go_must (refine (bits_awake _).mono ?_); rintro e w1 ⟨rfl, hb⟩; have HB1 := Aside0.mk hb; clear hb)
    | (go_at_call 51; go_must (refine (bits_New_row n _).mono ?_); rw [HN.out]; rintro e w2 ⟨gp, rfl, ho, hb⟩; have HB2 := Aside0.mk (below_step HB1.out hb); have HO2 := Aside0.mk ho; clear ho hb)
    | (go_at_call 52; go_must (refine (ref_New_calls n _).mono ?_); rw [HN.out]; rintro e w3 ⟨gr, rfl, ho, hg, hb⟩; have HB3 := Aside0.mk (below_step HB2.out hb); have HO3 := Aside0.mk (HO2.out.below hb); have HJ3 := Aside0.mk ho; clear ho hb hg))
  have HO4 := Aside0.mk (HO3.out.lower HB1.out.size)
  have HJ4 := Aside0.mk (HJ3.out.lower HB2.out.size)
  clear HO2 HB2 HB1 HO3 HJ3
  have HO3 := HO4
  have HJ3 := HJ4
  clear HO4 HJ4
  go_loopw [23] (fun i wr => ∃ k : Nat, k ≤ len ∧ i = .int .i64 k ∧ Aside0 (∃ l : List Bool, l.length = N ∧ BRow wr w.heap.size gp l ∧ RefRow wr w.heap.size gr l ∧ Below w.heap.size w wr)) (fun i _ => len - (intOf i).toNat)
  case atStart => exact ⟨0, Nat.zero_le _, rfl, ⟨_, List.length_replicate, HO3.out, HJ3.out, HB3.out⟩⟩
  case round =>
    obtain ⟨k, hk, rfl, HREL⟩ := hrel
    clear HO3 HJ3 HB3
    obtain ⟨l, hl, ho, hj, hb⟩ := HREL.out
    have HO := Aside0.mk ho
    have HJ := Aside0.mk hj
    have HB := Aside0.mk hb
    have HLN := Aside0.mk hl
    have HL : Aside0 (l.length ≤ 4096) := ⟨by omega⟩
    clear ho hj hb hl HREL
    by_cases hlt : k < len
    · obtain ⟨x, kd, ii, on, rfl, hx0, hx1, hx2, hii⟩ := HSC.out k hlt
      have hy0 := pw_cell_below HB.out hx0
      have hy1 := pw_cell_below HB.out hx1
      have hy2 := pw_cell_below HB.out hx2
      rw [add_field x (k * 3) 1 (by omega)] at hy1
      rw [add_field x (k * 3) 2 (by omega)] at hy2
      have HII := Aside0.mk hii
      clear hx0 hx1 hx2 hii
      obtain ⟨g8, hg8⟩ : ∃ g8, wr.heap.size = g8 := ⟨_, rfl⟩
      go_upto_region 8 with (fail)
      obtain ⟨W1, hW1⟩ : ∃ W1, W1 = wr.alloc (Obj.cells #[.int .i64 kd, .int .i64 ii, .bool on] 58) := ⟨_, rfl⟩
      have HO1 : Aside0 (BRow W1 w.heap.size gp l) := ⟨by rw [hW1]; exact HO.out.below (below_alloc (Below.refl _ _) _)⟩
      have HJ1 : Aside0 (RefRow W1 w.heap.size gr l) := ⟨by rw [hW1]; exact HJ.out.below (below_alloc (Below.refl _ _) _)⟩
      have HB1 : Aside0 (Below w.heap.size w W1) := ⟨by rw [hW1]; exact below_alloc HB.out _⟩
      have HK1 : Aside0 (W1.heap[g8]? = some (.cells #[.int .i64 kd, .int .i64 ii, .bool on] 58 (0, 0))) := ⟨by rw [hW1, ← hg8]; exact blk_new _ _⟩
      rw [← hW1]
      clear hW1 hg8 hy0 hy1 hy2 HO HJ HB
      rcases (show (¬ kd = 1) ∨ (kd = 1 ∧ 0 ≤ ii ∧ ii < l.length) ∨ (kd = 1 ∧ (ii < 0 ∨ (l.length : Int) ≤ ii)) by omega) with hkd | ⟨hkd, h0, h1⟩ | ⟨hkd, hout⟩
      · have hkq : (kd == 1) = false := beq_eq_false_iff_ne.2 hkd
        clear hkd
        have HO := HO1
        have HJ := HJ1
        have HB := HB1
        have HK := HK1
        clear HO1 HJ1 HB1 HK1
        refine start_ (n := 18) (S := fun w' => w'.heap[g8]? = some (.cells #[.int .i64 kd, .int .i64 ii, .bool on] 58 (0, 0))) (ds := []) #[false, false, false, false, false, false, false, false, false, false, false, false, false, false, false, false, false, false] (by kernel_rfl) rfl rfl (HK.out) (fun hHeld => ?_); refine with_tabW play_rt8.tab play_rt8.bits (fun HT_ HW_ => ?_)
        refine pure_ (i := 0) (N := some 30) (v := ?_) (a' := ?_) #[true, false, false, false, false, false, false, false, false, false, false, false, false, false, false, false, false, false] rfl rfl (any_of HT_.out (by kernel_rfl)) (fun _ _ _ h => h) (Or.inl ⟨by rfl, ?_⟩) ?_ ?_
        rotate_left
        · intro w'
          go_simp; first | done | with_reducible rfl
        rotate_left
        · simp only [Act.put, List.setIfInBounds_toArray, List.set_cons_zero, List.set_cons_succ, i64_w, i32_w]
          rfl
        refine take_ (i := 1) (N := some 31) (v := ?_) (a' := ?_) #[true, true, false, false, false, false, false, false, false, false, false, false, false, false, false, false, false, false] rfl rfl (take_ofW HT_.out HW_.out (by kernel_rfl)) (fun _ _ _ h => h) (Or.inl ⟨by rfl, ?_⟩) hHeld ?_ ?_
        rotate_left
        · intro w' hS'
          have hk0 := (blk_cell hS' 0).trans rfl
          go_simp; first | done | with_reducible rfl
        rotate_left
        · simp only [Act.put, List.setIfInBounds_toArray, List.set_cons_zero, List.set_cons_succ, i64_w, i32_w]
          rfl
        refine pure_ (i := 2) (N := some 32) (v := ?_) (a' := ?_) #[true, true, true, false, false, false, false, false, false, false, false, false, false, false, false, false, false, false] rfl rfl (any_of HT_.out (by kernel_rfl)) (fun _ _ _ h => h) (Or.inl ⟨by rfl, ?_⟩) ?_ ?_
        rotate_left
        · intro w'
          go_simp; first | done | with_reducible rfl
        rotate_left
        · simp only [Act.put, List.setIfInBounds_toArray, List.set_cons_zero, List.set_cons_succ, i64_w, i32_w]
          rfl
        refine pure_ (i := 3) (N := some 33) (v := ?_) (a' := ?_) #[true, true, true, true, false, false, false, false, false, false, false, false, false, false, false, false, false, false] rfl rfl (any_of HT_.out (by kernel_rfl)) (fun _ _ _ h => h) (Or.inl ⟨by rfl, ?_⟩) ?_ ?_
        rotate_left
        · intro w'
          go_simp; first | done | with_reducible rfl
        rotate_left
        · simp only [Act.put, List.setIfInBounds_toArray, List.set_cons_zero, List.set_cons_succ, i64_w, i32_w]
          rfl
        refine pure_ (i := 4) (N := some 34) (v := undef) (a' := ?_) #[true, true, true, true, true, false, false, false, false, false, false, false, false, false, false, false, false, false] rfl rfl (any_of HT_.out (by kernel_rfl)) (fun _ _ _ h => h) (Or.inr ⟨by rfl, rfl⟩) ?_ ?_
        rotate_left
        · simp only [Act.put, List.setIfInBounds_toArray, List.set_cons_zero, List.set_cons_succ, i64_w, i32_w]
          rfl
        refine pure_ (i := 5) (N := some 35) (v := undef) (a' := ?_) #[true, true, true, true, true, true, false, false, false, false, false, false, false, false, false, false, false, false] rfl rfl (any_of HT_.out (by kernel_rfl)) (fun _ _ _ h => h) (Or.inr ⟨by rfl, rfl⟩) ?_ ?_
        rotate_left
        · simp only [Act.put, List.setIfInBounds_toArray, List.set_cons_zero, List.set_cons_succ, i64_w, i32_w]
          rfl
        refine pure_ (i := 6) (N := some 36) (v := undef) (a' := ?_) #[true, true, true, true, true, true, true, false, false, false, false, false, false, false, false, false, false, false] rfl rfl (any_of HT_.out (by kernel_rfl)) (fun _ _ _ h => h) (Or.inr ⟨by rfl, rfl⟩) ?_ ?_
        rotate_left
        · simp only [Act.put, List.setIfInBounds_toArray, List.set_cons_zero, List.set_cons_succ, i64_w, i32_w]
          rfl
        refine pure_ (i := 7) (N := some 37) (v := undef) (a' := ?_) #[true, true, true, true, true, true, true, true, false, false, false, false, false, false, false, false, false, false] rfl rfl (any_of HT_.out (by kernel_rfl)) (fun _ _ _ h => h) (Or.inr ⟨by rfl, rfl⟩) ?_ ?_
        rotate_left
        · simp only [Act.put, List.setIfInBounds_toArray, List.set_cons_zero, List.set_cons_succ, i64_w, i32_w]
          rfl
        refine pure_ (i := 8) (N := some 38) (v := undef) (a' := ?_) #[true, true, true, true, true, true, true, true, true, false, false, false, false, false, false, false, false, false] rfl rfl (any_of HT_.out (by kernel_rfl)) (fun _ _ _ h => h) (Or.inr ⟨by rfl, rfl⟩) ?_ ?_
        rotate_left
        · simp only [Act.put, List.setIfInBounds_toArray, List.set_cons_zero, List.set_cons_succ, i64_w, i32_w]
          rfl
        refine pure_ (i := 9) (N := some 39) (v := undef) (a' := ?_) #[true, true, true, true, true, true, true, true, true, true, false, false, false, false, false, false, false, false] rfl rfl (any_of HT_.out (by kernel_rfl)) (fun _ _ _ h => h) (Or.inr ⟨by rfl, rfl⟩) ?_ ?_
        rotate_left
        · simp only [Act.put, List.setIfInBounds_toArray, List.set_cons_zero, List.set_cons_succ, i64_w, i32_w]
          rfl
        refine pure_ (i := 10) (N := some 40) (v := undef) (a' := ?_) #[true, true, true, true, true, true, true, true, true, true, true, false, false, false, false, false, false, false] rfl rfl (any_of HT_.out (by kernel_rfl)) (fun _ _ _ h => h) (Or.inr ⟨by rfl, rfl⟩) ?_ ?_
        rotate_left
        · simp only [Act.put, List.setIfInBounds_toArray, List.set_cons_zero, List.set_cons_succ, i64_w, i32_w]
          rfl
        refine pure_ (i := 11) (N := some 41) (v := undef) (a' := ?_) #[true, true, true, true, true, true, true, true, true, true, true, true, false, false, false, false, false, false] rfl rfl (any_of HT_.out (by kernel_rfl)) (fun _ _ _ h => h) (Or.inr ⟨by rfl, rfl⟩) ?_ ?_
        rotate_left
        · simp only [Act.put, List.setIfInBounds_toArray, List.set_cons_zero, List.set_cons_succ, i64_w, i32_w]
          rfl
        refine pure_ (i := 12) (N := some 42) (v := undef) (a' := ?_) #[true, true, true, true, true, true, true, true, true, true, true, true, true, false, false, false, false, false] rfl rfl (any_of HT_.out (by kernel_rfl)) (fun _ _ _ h => h) (Or.inr ⟨by rfl, rfl⟩) ?_ ?_
        rotate_left
        · simp only [Act.put, List.setIfInBounds_toArray, List.set_cons_zero, List.set_cons_succ, i64_w, i32_w]
          rfl
        refine pure_ (i := 13) (N := some 43) (v := undef) (a' := ?_) #[true, true, true, true, true, true, true, true, true, true, true, true, true, true, false, false, false, false] rfl rfl (any_of HT_.out (by kernel_rfl)) (fun _ _ _ h => h) (Or.inr ⟨by rfl, rfl⟩) ?_ ?_
        rotate_left
        · simp only [Act.put, List.setIfInBounds_toArray, List.set_cons_zero, List.set_cons_succ, i64_w, i32_w]
          rfl
        refine pure_ (i := 14) (N := some 44) (v := undef) (a' := ?_) #[true, true, true, true, true, true, true, true, true, true, true, true, true, true, true, false, false, false] rfl rfl (any_of HT_.out (by kernel_rfl)) (fun _ _ _ h => h) (Or.inr ⟨by rfl, rfl⟩) ?_ ?_
        rotate_left
        · simp only [Act.put, List.setIfInBounds_toArray, List.set_cons_zero, List.set_cons_succ, i64_w, i32_w]
          rfl
        refine pure_ (i := 15) (N := some 45) (v := undef) (a' := ?_) #[true, true, true, true, true, true, true, true, true, true, true, true, true, true, true, true, false, false] rfl rfl (any_of HT_.out (by kernel_rfl)) (fun _ _ _ h => h) (Or.inr ⟨by rfl, rfl⟩) ?_ ?_
        rotate_left
        · simp only [Act.put, List.setIfInBounds_toArray, List.set_cons_zero, List.set_cons_succ, i64_w, i32_w]
          rfl
        refine pure_ (i := 16) (N := some 46) (v := undef) (a' := ?_) #[true, true, true, true, true, true, true, true, true, true, true, true, true, true, true, true, true, false] rfl rfl (any_of HT_.out (by kernel_rfl)) (fun _ _ _ h => h) (Or.inr ⟨by rfl, rfl⟩) ?_ ?_
        rotate_left
        · simp only [Act.put, List.setIfInBounds_toArray, List.set_cons_zero, List.set_cons_succ, i64_w, i32_w]
          rfl
        refine pure_ (i := 17) (N := some 47) (v := ?_) (a' := ?_) #[true, true, true, true, true, true, true, true, true, true, true, true, true, true, true, true, true, true] rfl rfl (any_of HT_.out (by kernel_rfl)) (fun _ _ _ h => h) (Or.inl ⟨by rfl, ?_⟩) ?_ ?_
        rotate_left
        · intro w'
          go_simp; first | done | with_reducible rfl
        rotate_left
        · simp only [Act.put, List.setIfInBounds_toArray, List.set_cons_zero, List.set_cons_succ, i64_w, i32_w]
          rfl
        refine done_ (done_of HT_.out (by kernel_rfl)) ?_
        clear HT_ HW_ hHeld
        obtain ⟨l2, hl2⟩ : ∃ l2, l = l2 := ⟨_, rfl⟩
        rw [hl2] at HO HJ HL HLN
        have HL2 := HL
        have HLN2 := HLN
        have HO2 := Aside0.mk (HO.out.below (below_drew (Below.refl _ _)))
        have HJ2 := Aside0.mk (HJ.out.below (below_drew (Below.refl _ _)))
        have HB2 := Aside0.mk (below_drew HB.out)
        clear hl2 HO HJ HB
        have HO := HO2
        have HJ := HJ2
        have HB := HB2
        clear HO2 HJ2 HB2
        go_upto_region 10 with (fail)
        refine start_ (n := 37) (S := fun w' => BRow w' w.heap.size gp l2 ∧ RefRow w' w.heap.size gr l2 ∧ Below w.heap.size w w' ∧ w'.heap[g8]? = some (.cells #[.int .i64 kd, .int .i64 ii, .bool on] 58 (0, 0))) (ds := []) #[false, false, false, false, false, false, false, false, false, false, false, false, false, false, false, false, false, false, false, false, false, false, false, false, false, false, false, false, false, false, false, false, false, false, false, false, false] (by kernel_rfl) rfl rfl (And.intro (HO.out.below (below_drew (Below.refl _ _))) (And.intro (HJ.out.below (below_drew (Below.refl _ _))) (And.intro (below_drew HB.out) HK.out))) (fun hHeld => ?_); refine with_tabW play_rt10.tab play_rt10.bits (fun HT_ HW_ => ?_)
        refine pure_ (i := 0) (N := some 48) (v := ?_) (a' := ?_) #[true, false, false, false, false, false, false, false, false, false, false, false, false, false, false, false, false, false, false, false, false, false, false, false, false, false, false, false, false, false, false, false, false, false, false, false, false] rfl rfl (any_of HT_.out (by kernel_rfl)) (fun _ _ _ h => h) (Or.inl ⟨by rfl, ?_⟩) ?_ ?_
        rotate_left
        · intro w'
          go_simp; first | done | with_reducible rfl
        rotate_left
        · simp only [Act.put, List.setIfInBounds_toArray, List.set_cons_zero, List.set_cons_succ, i64_w, i32_w]
          rfl
        refine pure_ (i := 1) (N := some 49) (v := ?_) (a' := ?_) #[true, true, false, false, false, false, false, false, false, false, false, false, false, false, false, false, false, false, false, false, false, false, false, false, false, false, false, false, false, false, false, false, false, false, false, false, false] rfl rfl (any_of HT_.out (by kernel_rfl)) (fun _ _ _ h => h) (Or.inl ⟨by rfl, ?_⟩) ?_ ?_
        rotate_left
        · intro w'
          go_simp; first | done | with_reducible rfl
        rotate_left
        · simp only [Act.put, List.setIfInBounds_toArray, List.set_cons_zero, List.set_cons_succ, i64_w, i32_w]
          rfl
        refine pure_ (i := 4) (N := some 52) (v := ?_) (a' := ?_) #[true, true, false, false, true, false, false, false, false, false, false, false, false, false, false, false, false, false, false, false, false, false, false, false, false, false, false, false, false, false, false, false, false, false, false, false, false] rfl rfl (any_of HT_.out (by kernel_rfl)) (fun _ _ _ h => h) (Or.inl ⟨by rfl, ?_⟩) ?_ ?_
        rotate_left
        · intro w'
          go_simp; first | done | with_reducible rfl
        rotate_left
        · simp only [Act.put, List.setIfInBounds_toArray, List.set_cons_zero, List.set_cons_succ, i64_w, i32_w]
          rfl
        refine pure_ (i := 5) (N := some 53) (v := ?_) (a' := ?_) #[true, true, false, false, true, true, false, false, false, false, false, false, false, false, false, false, false, false, false, false, false, false, false, false, false, false, false, false, false, false, false, false, false, false, false, false, false] rfl rfl (any_of HT_.out (by kernel_rfl)) (fun _ _ _ h => h) (Or.inl ⟨by rfl, ?_⟩) ?_ ?_
        rotate_left
        · intro w'
          go_simp; first | done | with_reducible rfl
        rotate_left
        · simp only [Act.put, List.setIfInBounds_toArray, List.set_cons_zero, List.set_cons_succ, i64_w, i32_w]
          rfl
        refine take_ (i := 2) (N := some 50) (v := ?_) (a' := ?_) #[true, true, true, false, true, true, false, false, false, false, false, false, false, false, false, false, false, false, false, false, false, false, false, false, false, false, false, false, false, false, false, false, false, false, false, false, false] rfl rfl (take_ofW HT_.out HW_.out (by kernel_rfl)) (fun _ _ _ h => h) (Or.inl ⟨by rfl, ?_⟩) hHeld ?_ ?_
        rotate_left
        · intro w' hS'
          have hk0 := (blk_cell hS'.2.2.2 1).trans rfl
          go_simp; first | done | with_reducible rfl
        rotate_left
        · simp only [Act.put, List.setIfInBounds_toArray, List.set_cons_zero, List.set_cons_succ, i64_w, i32_w]
          rfl
        refine take_ (i := 6) (N := some 54) (v := ?_) (a' := ?_) #[true, true, true, false, true, true, true, false, false, false, false, false, false, false, false, false, false, false, false, false, false, false, false, false, false, false, false, false, false, false, false, false, false, false, false, false, false] rfl rfl (take_ofW HT_.out HW_.out (by kernel_rfl)) (fun _ _ _ h => h) (Or.inl ⟨by rfl, ?_⟩) hHeld ?_ ?_
        rotate_left
        · intro w' hS'
          have hk0 := (blk_cell hS'.2.2.2 1).trans rfl
          go_simp; first | done | with_reducible rfl
        rotate_left
        · simp only [Act.put, List.setIfInBounds_toArray, List.set_cons_zero, List.set_cons_succ, i64_w, i32_w]
          rfl
        refine one_ (i := 3) (N := some 51) #[true, true, true, true, true, true, true, false, false, false, false, false, false, false, false, false, false, false, false, false, false, false, false, false, false, false, false, false, false, false, false, false, false, false, false, false, false] rfl rfl (one_of HT_.out (by kernel_rfl)) (by decide) (fun K hK => ?_)
        refine goes_ Try.func44 (by kernel_rfl) rfl #[.pointer (some ⟨gp, 0, none⟩), .int .i64 ii] (by rfl) rfl rfl (by (try simp only [List.map_toArray, List.map_cons, List.map_nil]); first | done | rfl) ?_
        refine (bits_Get_calls gp l2 ii w.heap.size _ hHeld.1 HL2.out).mono ?_
        rintro e w5 ⟨rfl, rfl⟩
        refine ⟨_, rfl, ?_⟩
        refine hK.out _ _ (hHeld) (fun hHeld => ?_)
        clear hK K
        refine norm_ (a' := ?_) ?_ ?_
        rotate_left
        · show Act.put _ (some 51) _ = _
          simp only [Act.put, List.setIfInBounds_toArray, List.set_cons_zero, List.set_cons_succ, i64_w, i32_w]
          rfl
        refine one_ (i := 7) (N := some 55) #[true, true, true, true, true, true, true, true, false, false, false, false, false, false, false, false, false, false, false, false, false, false, false, false, false, false, false, false, false, false, false, false, false, false, false, false, false] rfl rfl (one_of HT_.out (by kernel_rfl)) (by decide) (fun K hK => ?_)
        refine goes_ Try.func55 (by kernel_rfl) rfl #[.pointer (some ⟨gr, 0, none⟩), .int .i64 ii] (by rfl) rfl rfl (by (try simp only [List.map_toArray, List.map_cons, List.map_nil]); first | done | rfl) ?_
        refine (ref_Get_calls gr l2 ii w.heap.size _ hHeld.2.1).mono ?_
        rintro e w6 ⟨rfl, rfl⟩
        refine ⟨_, rfl, ?_⟩
        refine hK.out _ _ (hHeld) (fun hHeld => ?_)
        clear hK K
        refine norm_ (a' := ?_) ?_ ?_
        rotate_left
        · show Act.put _ (some 55) _ = _
          simp only [Act.put, List.setIfInBounds_toArray, List.set_cons_zero, List.set_cons_succ, i64_w, i32_w]
          rfl
        refine pure_ (i := 8) (N := some 56) (v := ?_) (a' := ?_) #[true, true, true, true, true, true, true, true, true, false, false, false, false, false, false, false, false, false, false, false, false, false, false, false, false, false, false, false, false, false, false, false, false, false, false, false, false] rfl rfl (any_of HT_.out (by kernel_rfl)) (fun _ _ _ h => h) (Or.inl ⟨by rfl, ?_⟩) ?_ ?_
        rotate_left
        · intro w'
          go_simp; first | done | with_reducible rfl
        rotate_left
        · simp only [Act.put, List.setIfInBounds_toArray, List.set_cons_zero, List.set_cons_succ, i64_w, i32_w]
          rfl
        refine pure_ (i := 9) (N := some 57) (v := ?_) (a' := ?_) #[true, true, true, true, true, true, true, true, true, true, false, false, false, false, false, false, false, false, false, false, false, false, false, false, false, false, false, false, false, false, false, false, false, false, false, false, false] rfl rfl (any_of HT_.out (by kernel_rfl)) (fun _ _ _ h => h) (Or.inl ⟨by rfl, ?_⟩) ?_ ?_
        rotate_left
        · intro w'
          go_simp; first | done | with_reducible rfl
        rotate_left
        · simp only [Act.put, List.setIfInBounds_toArray, List.set_cons_zero, List.set_cons_succ, i64_w, i32_w]
          rfl
        refine pure_ (i := 10) (N := some 58) (v := ?_) (a' := ?_) #[true, true, true, true, true, true, true, true, true, true, true, false, false, false, false, false, false, false, false, false, false, false, false, false, false, false, false, false, false, false, false, false, false, false, false, false, false] rfl rfl (any_of HT_.out (by kernel_rfl)) (fun _ _ _ h => h) (Or.inl ⟨by rfl, ?_⟩) ?_ ?_
        rotate_left
        · intro w'
          go_simp; first | done | with_reducible rfl
        rotate_left
        · simp only [Act.put, List.setIfInBounds_toArray, List.set_cons_zero, List.set_cons_succ, i64_w, i32_w]
          rfl
        refine pure_ (i := 11) (N := some 59) (v := ?_) (a' := ?_) #[true, true, true, true, true, true, true, true, true, true, true, true, false, false, false, false, false, false, false, false, false, false, false, false, false, false, false, false, false, false, false, false, false, false, false, false, false] rfl rfl (any_of HT_.out (by kernel_rfl)) (fun _ _ _ h => h) (Or.inl ⟨by rfl, ?_⟩) ?_ ?_
        rotate_left
        · intro w'
          go_simp; first | done | with_reducible rfl
        rotate_left
        · simp only [Act.put, List.setIfInBounds_toArray, List.set_cons_zero, List.set_cons_succ, i64_w, i32_w]
          rfl
        refine pure_ (i := 14) (N := some 62) (v := ?_) (a' := ?_) #[true, true, true, true, true, true, true, true, true, true, true, true, false, false, true, false, false, false, false, false, false, false, false, false, false, false, false, false, false, false, false, false, false, false, false, false, false] rfl rfl (any_of HT_.out (by kernel_rfl)) (fun _ _ _ h => h) (Or.inl ⟨by rfl, ?_⟩) ?_ ?_
        rotate_left
        · intro w'
          go_simp; first | done | with_reducible rfl
        rotate_left
        · simp only [Act.put, List.setIfInBounds_toArray, List.set_cons_zero, List.set_cons_succ, i64_w, i32_w]
          rfl
        refine pure_ (i := 15) (N := some 63) (v := ?_) (a' := ?_) #[true, true, true, true, true, true, true, true, true, true, true, true, false, false, true, true, false, false, false, false, false, false, false, false, false, false, false, false, false, false, false, false, false, false, false, false, false] rfl rfl (any_of HT_.out (by kernel_rfl)) (fun _ _ _ h => h) (Or.inl ⟨by rfl, ?_⟩) ?_ ?_
        rotate_left
        · intro w'
          go_simp; first | done | with_reducible rfl
        rotate_left
        · simp only [Act.put, List.setIfInBounds_toArray, List.set_cons_zero, List.set_cons_succ, i64_w, i32_w]
          rfl
        refine take_ (i := 12) (N := some 60) (v := ?_) (a' := ?_) #[true, true, true, true, true, true, true, true, true, true, true, true, true, false, true, true, false, false, false, false, false, false, false, false, false, false, false, false, false, false, false, false, false, false, false, false, false] rfl rfl (take_ofW HT_.out HW_.out (by kernel_rfl)) (fun _ _ _ h => h) (Or.inl ⟨by rfl, ?_⟩) hHeld ?_ ?_
        rotate_left
        · intro w' hS'
          have hk0 := (blk_cell hS'.2.2.2 1).trans rfl
          go_simp; first | done | with_reducible rfl
        rotate_left
        · simp only [Act.put, List.setIfInBounds_toArray, List.set_cons_zero, List.set_cons_succ, i64_w, i32_w]
          rfl
        refine take_ (i := 16) (N := some 64) (v := ?_) (a' := ?_) #[true, true, true, true, true, true, true, true, true, true, true, true, true, false, true, true, true, false, false, false, false, false, false, false, false, false, false, false, false, false, false, false, false, false, false, false, false] rfl rfl (take_ofW HT_.out HW_.out (by kernel_rfl)) (fun _ _ _ h => h) (Or.inl ⟨by rfl, ?_⟩) hHeld ?_ ?_
        rotate_left
        · intro w' hS'
          have hk0 := (blk_cell hS'.2.2.2 1).trans rfl
          go_simp; first | done | with_reducible rfl
        rotate_left
        · simp only [Act.put, List.setIfInBounds_toArray, List.set_cons_zero, List.set_cons_succ, i64_w, i32_w]
          rfl
        refine one_ (i := 13) (N := some 61) #[true, true, true, true, true, true, true, true, true, true, true, true, true, true, true, true, true, false, false, false, false, false, false, false, false, false, false, false, false, false, false, false, false, false, false, false, false] rfl rfl (one_of HT_.out (by kernel_rfl)) (by decide) (fun K hK => ?_)
        refine goes_ Try.func48 (by kernel_rfl) rfl #[.pointer (some ⟨gp, 0, none⟩), .int .i64 ii] (by rfl) rfl rfl (by (try simp only [List.map_toArray, List.map_cons, List.map_nil]); first | done | rfl) ?_
        refine (bits_First_calls gp l2 ii w.heap.size _ hHeld.1 HL2.out).mono ?_
        rintro e w7 ⟨rfl, rfl⟩
        refine ⟨_, rfl, ?_⟩
        refine hK.out _ _ (hHeld) (fun hHeld => ?_)
        clear hK K
        refine norm_ (a' := ?_) ?_ ?_
        rotate_left
        · show Act.put _ (some 61) _ = _
          simp only [Act.put, List.setIfInBounds_toArray, List.set_cons_zero, List.set_cons_succ, i64_w, i32_w]
          rfl
        refine one_ (i := 17) (N := some 65) #[true, true, true, true, true, true, true, true, true, true, true, true, true, true, true, true, true, true, false, false, false, false, false, false, false, false, false, false, false, false, false, false, false, false, false, false, false] rfl rfl (one_of HT_.out (by kernel_rfl)) (by decide) (fun K hK => ?_)
        refine goes_ Try.func49 (by kernel_rfl) rfl #[.pointer (some ⟨gr, 0, none⟩), .int .i64 ii] (by rfl) rfl rfl (by (try simp only [List.map_toArray, List.map_cons, List.map_nil]); first | done | rfl) ?_
        refine (ref_First_calls gr l2 ii w.heap.size _ hHeld.2.1 HL2.out).mono ?_
        rintro e w8 ⟨rfl, rfl⟩
        refine ⟨_, rfl, ?_⟩
        refine hK.out _ _ (hHeld) (fun hHeld => ?_)
        clear hK K
        refine norm_ (a' := ?_) ?_ ?_
        rotate_left
        · show Act.put _ (some 65) _ = _
          simp only [Act.put, List.setIfInBounds_toArray, List.set_cons_zero, List.set_cons_succ, i64_w, i32_w]
          rfl
        refine pure_ (i := 18) (N := some 66) (v := ?_) (a' := ?_) #[true, true, true, true, true, true, true, true, true, true, true, true, true, true, true, true, true, true, true, false, false, false, false, false, false, false, false, false, false, false, false, false, false, false, false, false, false] rfl rfl (any_of HT_.out (by kernel_rfl)) (fun _ _ _ h => h) (Or.inl ⟨by rfl, ?_⟩) ?_ ?_
        rotate_left
        · intro w'
          go_simp; first | done | with_reducible rfl
        rotate_left
        · simp only [Act.put, List.setIfInBounds_toArray, List.set_cons_zero, List.set_cons_succ, i64_w, i32_w]
          rfl
        refine pure_ (i := 19) (N := some 67) (v := ?_) (a' := ?_) #[true, true, true, true, true, true, true, true, true, true, true, true, true, true, true, true, true, true, true, true, false, false, false, false, false, false, false, false, false, false, false, false, false, false, false, false, false] rfl rfl (any_of HT_.out (by kernel_rfl)) (fun _ _ _ h => h) (Or.inl ⟨by rfl, ?_⟩) ?_ ?_
        rotate_left
        · intro w'
          go_simp; first | done | with_reducible rfl
        rotate_left
        · simp only [Act.put, List.setIfInBounds_toArray, List.set_cons_zero, List.set_cons_succ, i64_w, i32_w]
          rfl
        refine pure_ (i := 20) (N := some 68) (v := ?_) (a' := ?_) #[true, true, true, true, true, true, true, true, true, true, true, true, true, true, true, true, true, true, true, true, true, false, false, false, false, false, false, false, false, false, false, false, false, false, false, false, false] rfl rfl (any_of HT_.out (by kernel_rfl)) (fun _ _ _ h => h) (Or.inl ⟨by rfl, ?_⟩) ?_ ?_
        rotate_left
        · intro w'
          go_simp; first | done | with_reducible rfl
        rotate_left
        · simp only [Act.put, List.setIfInBounds_toArray, List.set_cons_zero, List.set_cons_succ, i64_w, i32_w]
          rfl
        refine pure_ (i := 21) (N := some 69) (v := ?_) (a' := ?_) #[true, true, true, true, true, true, true, true, true, true, true, true, true, true, true, true, true, true, true, true, true, true, false, false, false, false, false, false, false, false, false, false, false, false, false, false, false] rfl rfl (any_of HT_.out (by kernel_rfl)) (fun _ _ _ h => h) (Or.inl ⟨by rfl, ?_⟩) ?_ ?_
        rotate_left
        · intro w'
          go_simp; first | done | with_reducible rfl
        rotate_left
        · simp only [Act.put, List.setIfInBounds_toArray, List.set_cons_zero, List.set_cons_succ, i64_w, i32_w]
          rfl
        refine pure_ (i := 22) (N := some 70) (v := ?_) (a' := ?_) #[true, true, true, true, true, true, true, true, true, true, true, true, true, true, true, true, true, true, true, true, true, true, true, false, false, false, false, false, false, false, false, false, false, false, false, false, false] rfl rfl (any_of HT_.out (by kernel_rfl)) (fun _ _ _ h => h) (Or.inl ⟨by rfl, ?_⟩) ?_ ?_
        rotate_left
        · intro w'
          go_simp; first | done | with_reducible rfl
        rotate_left
        · simp only [Act.put, List.setIfInBounds_toArray, List.set_cons_zero, List.set_cons_succ, i64_w, i32_w]
          rfl
        refine pure_ (i := 25) (N := some 73) (v := ?_) (a' := ?_) #[true, true, true, true, true, true, true, true, true, true, true, true, true, true, true, true, true, true, true, true, true, true, true, false, false, true, false, false, false, false, false, false, false, false, false, false, false] rfl rfl (any_of HT_.out (by kernel_rfl)) (fun _ _ _ h => h) (Or.inl ⟨by rfl, ?_⟩) ?_ ?_
        rotate_left
        · intro w'
          go_simp; first | done | with_reducible rfl
        rotate_left
        · simp only [Act.put, List.setIfInBounds_toArray, List.set_cons_zero, List.set_cons_succ, i64_w, i32_w]
          rfl
        refine pure_ (i := 26) (N := some 74) (v := ?_) (a' := ?_) #[true, true, true, true, true, true, true, true, true, true, true, true, true, true, true, true, true, true, true, true, true, true, true, false, false, true, true, false, false, false, false, false, false, false, false, false, false] rfl rfl (any_of HT_.out (by kernel_rfl)) (fun _ _ _ h => h) (Or.inl ⟨by rfl, ?_⟩) ?_ ?_
        rotate_left
        · intro w'
          go_simp; first | done | with_reducible rfl
        rotate_left
        · simp only [Act.put, List.setIfInBounds_toArray, List.set_cons_zero, List.set_cons_succ, i64_w, i32_w]
          rfl
        refine take_ (i := 23) (N := some 71) (v := ?_) (a' := ?_) #[true, true, true, true, true, true, true, true, true, true, true, true, true, true, true, true, true, true, true, true, true, true, true, true, false, true, true, false, false, false, false, false, false, false, false, false, false] rfl rfl (take_ofW HT_.out HW_.out (by kernel_rfl)) (fun _ _ _ h => h) (Or.inl ⟨by rfl, ?_⟩) hHeld ?_ ?_
        rotate_left
        · intro w' hS'
          have hk0 := (blk_cell hS'.2.2.2 1).trans rfl
          go_simp; first | done | with_reducible rfl
        rotate_left
        · simp only [Act.put, List.setIfInBounds_toArray, List.set_cons_zero, List.set_cons_succ, i64_w, i32_w]
          rfl
        refine take_ (i := 27) (N := some 75) (v := ?_) (a' := ?_) #[true, true, true, true, true, true, true, true, true, true, true, true, true, true, true, true, true, true, true, true, true, true, true, true, false, true, true, true, false, false, false, false, false, false, false, false, false] rfl rfl (take_ofW HT_.out HW_.out (by kernel_rfl)) (fun _ _ _ h => h) (Or.inl ⟨by rfl, ?_⟩) hHeld ?_ ?_
        rotate_left
        · intro w' hS'
          have hk0 := (blk_cell hS'.2.2.2 1).trans rfl
          go_simp; first | done | with_reducible rfl
        rotate_left
        · simp only [Act.put, List.setIfInBounds_toArray, List.set_cons_zero, List.set_cons_succ, i64_w, i32_w]
          rfl
        refine one_ (i := 24) (N := some 72) #[true, true, true, true, true, true, true, true, true, true, true, true, true, true, true, true, true, true, true, true, true, true, true, true, true, true, true, true, false, false, false, false, false, false, false, false, false] rfl rfl (one_of HT_.out (by kernel_rfl)) (by decide) (fun K hK => ?_)
        refine goes_ Try.func42 (by kernel_rfl) rfl #[.pointer (some ⟨gp, 0, none⟩), .int .i64 ii] (by rfl) rfl rfl (by (try simp only [List.map_toArray, List.map_cons, List.map_nil]); first | done | rfl) ?_
        refine (bits_Run_calls gp l2 ii w.heap.size _ hHeld.1 HL2.out HII.out).mono ?_
        rintro e w9 ⟨rfl, rfl⟩
        refine ⟨_, rfl, ?_⟩
        refine hK.out _ _ (hHeld) (fun hHeld => ?_)
        clear hK K
        refine norm_ (a' := ?_) ?_ ?_
        rotate_left
        · show Act.put _ (some 72) _ = _
          simp only [Act.put, List.setIfInBounds_toArray, List.set_cons_zero, List.set_cons_succ, i64_w, i32_w]
          rfl
        refine one_ (i := 28) (N := some 76) #[true, true, true, true, true, true, true, true, true, true, true, true, true, true, true, true, true, true, true, true, true, true, true, true, true, true, true, true, true, false, false, false, false, false, false, false, false] rfl rfl (one_of HT_.out (by kernel_rfl)) (by decide) (fun K hK => ?_)
        refine goes_ Try.func50 (by kernel_rfl) rfl #[.pointer (some ⟨gr, 0, none⟩), .int .i64 ii] (by rfl) rfl rfl (by (try simp only [List.map_toArray, List.map_cons, List.map_nil]); first | done | rfl) ?_
        refine (ref_Run_calls gr l2 ii w.heap.size _ hHeld.2.1 HL2.out).mono ?_
        rintro e w10 ⟨rfl, rfl⟩
        refine ⟨_, rfl, ?_⟩
        refine hK.out _ _ (hHeld) (fun hHeld => ?_)
        clear hK K
        refine norm_ (a' := ?_) ?_ ?_
        rotate_left
        · show Act.put _ (some 76) _ = _
          simp only [Act.put, List.setIfInBounds_toArray, List.set_cons_zero, List.set_cons_succ, i64_w, i32_w]
          rfl
        refine pure_ (i := 29) (N := some 77) (v := ?_) (a' := ?_) #[true, true, true, true, true, true, true, true, true, true, true, true, true, true, true, true, true, true, true, true, true, true, true, true, true, true, true, true, true, true, false, false, false, false, false, false, false] rfl rfl (any_of HT_.out (by kernel_rfl)) (fun _ _ _ h => h) (Or.inl ⟨by rfl, ?_⟩) ?_ ?_
        rotate_left
        · intro w'
          go_simp; first | done | with_reducible rfl
        rotate_left
        · simp only [Act.put, List.setIfInBounds_toArray, List.set_cons_zero, List.set_cons_succ, i64_w, i32_w]
          rfl
        refine pure_ (i := 30) (N := some 78) (v := ?_) (a' := ?_) #[true, true, true, true, true, true, true, true, true, true, true, true, true, true, true, true, true, true, true, true, true, true, true, true, true, true, true, true, true, true, true, false, false, false, false, false, false] rfl rfl (any_of HT_.out (by kernel_rfl)) (fun _ _ _ h => h) (Or.inl ⟨by rfl, ?_⟩) ?_ ?_
        rotate_left
        · intro w'
          go_simp; first | done | with_reducible rfl
        rotate_left
        · simp only [Act.put, List.setIfInBounds_toArray, List.set_cons_zero, List.set_cons_succ, i64_w, i32_w]
          rfl
        refine pure_ (i := 31) (N := some 79) (v := ?_) (a' := ?_) #[true, true, true, true, true, true, true, true, true, true, true, true, true, true, true, true, true, true, true, true, true, true, true, true, true, true, true, true, true, true, true, true, false, false, false, false, false] rfl rfl (any_of HT_.out (by kernel_rfl)) (fun _ _ _ h => h) (Or.inl ⟨by rfl, ?_⟩) ?_ ?_
        rotate_left
        · intro w'
          go_simp; first | done | with_reducible rfl
        rotate_left
        · simp only [Act.put, List.setIfInBounds_toArray, List.set_cons_zero, List.set_cons_succ, i64_w, i32_w]
          rfl
        refine pure_ (i := 32) (N := some 80) (v := ?_) (a' := ?_) #[true, true, true, true, true, true, true, true, true, true, true, true, true, true, true, true, true, true, true, true, true, true, true, true, true, true, true, true, true, true, true, true, true, false, false, false, false] rfl rfl (any_of HT_.out (by kernel_rfl)) (fun _ _ _ h => h) (Or.inl ⟨by rfl, ?_⟩) ?_ ?_
        rotate_left
        · intro w'
          go_simp; first | done | with_reducible rfl
        rotate_left
        · simp only [Act.put, List.setIfInBounds_toArray, List.set_cons_zero, List.set_cons_succ, i64_w, i32_w]
          rfl
        refine pure_ (i := 33) (N := some 81) (v := ?_) (a' := ?_) #[true, true, true, true, true, true, true, true, true, true, true, true, true, true, true, true, true, true, true, true, true, true, true, true, true, true, true, true, true, true, true, true, true, true, false, false, false] rfl rfl (any_of HT_.out (by kernel_rfl)) (fun _ _ _ h => h) (Or.inl ⟨by rfl, ?_⟩) ?_ ?_
        rotate_left
        · intro w'
          go_simp; first | done | with_reducible rfl
        rotate_left
        · simp only [Act.put, List.setIfInBounds_toArray, List.set_cons_zero, List.set_cons_succ, i64_w, i32_w]
          rfl
        refine one_ (i := 34) (N := some 82) #[true, true, true, true, true, true, true, true, true, true, true, true, true, true, true, true, true, true, true, true, true, true, true, true, true, true, true, true, true, true, true, true, true, true, true, false, false] rfl rfl (one_of HT_.out (by kernel_rfl)) (by decide) (fun K hK => ?_)
        refine goes_ Try.func46 (by kernel_rfl) rfl #[.pointer (some ⟨gp, 0, none⟩), .pointer (some ⟨gr, 0, none⟩)] (by rfl) rfl rfl (by (try simp only [List.map_toArray, List.map_cons, List.map_nil]); first | done | rfl) ?_
        refine (same_calls gp gr l2 w.heap.size w.heap.size _ hHeld.1 hHeld.2.1 HL2.out).mono ?_
        rintro e w11 ⟨rfl, hb⟩
        refine ⟨_, rfl, ?_⟩
        have hHeld := And.intro (hHeld.1.below hb) (And.intro (hHeld.2.1.below hb) (And.intro (below_step hHeld.2.2.1 hb) (blk_below hHeld.2.2.2 hb)))
        clear hb
        refine hK.out _ _ (hHeld) (fun hHeld => ?_)
        clear hK K
        refine norm_ (a' := ?_) ?_ ?_
        rotate_left
        · show Act.put _ (some 82) _ = _
          simp only [Act.put, List.setIfInBounds_toArray, List.set_cons_zero, List.set_cons_succ, i64_w, i32_w]
          rfl
        refine pure_ (i := 35) (N := some 83) (v := ?_) (a' := ?_) #[true, true, true, true, true, true, true, true, true, true, true, true, true, true, true, true, true, true, true, true, true, true, true, true, true, true, true, true, true, true, true, true, true, true, true, true, false] rfl rfl (any_of HT_.out (by kernel_rfl)) (fun _ _ _ h => h) (Or.inl ⟨by rfl, ?_⟩) ?_ ?_
        rotate_left
        · intro w'
          go_simp; first | done | with_reducible rfl
        rotate_left
        · simp only [Act.put, List.setIfInBounds_toArray, List.set_cons_zero, List.set_cons_succ, i64_w, i32_w]
          rfl
        refine pure_ (i := 36) (N := some 84) (v := ?_) (a' := ?_) #[true, true, true, true, true, true, true, true, true, true, true, true, true, true, true, true, true, true, true, true, true, true, true, true, true, true, true, true, true, true, true, true, true, true, true, true, true] rfl rfl (any_of HT_.out (by kernel_rfl)) (fun _ _ _ h => h) (Or.inl ⟨by rfl, ?_⟩) ?_ ?_
        rotate_left
        · intro w'
          go_simp; first | done | with_reducible rfl
        rotate_left
        · simp only [Act.put, List.setIfInBounds_toArray, List.set_cons_zero, List.set_cons_succ, i64_w, i32_w]
          rfl
        refine done_ (done_of HT_.out (by kernel_rfl)) ?_
        have HO9 := Aside0.mk hHeld.1
        have HJ9 := Aside0.mk hHeld.2.1
        have HB9 := Aside0.mk hHeld.2.2.1
        clear HT_ HW_ hHeld HO HJ HB HK
        go_wp2
        go_roundw
        case rel => exact ⟨k + 1, by omega, by go_num, ⟨l2, HLN2.out, HO9.out, HJ9.out, HB9.out⟩⟩
        case measure => simp [intOf]; omega
      · subst hkd
        obtain ⟨m, rfl⟩ := Int.eq_ofNat_of_zero_le h0
        have hml : m < l.length := by omega
        clear h0 h1
        have HO := HO1
        have HJ := HJ1
        have HB := HB1
        have HK := HK1
        clear HO1 HJ1 HB1 HK1
        refine start_ (n := 18) (S := fun w' => w'.heap[g8]? = some (.cells #[.int .i64 1, .int .i64 (m : Int), .bool on] 58 (0, 0))) (ds := []) #[false, false, false, false, false, false, false, false, false, false, false, false, false, false, false, false, false, false] (by kernel_rfl) rfl rfl (HK.out) (fun hHeld => ?_); refine with_tabW play_rt8.tab play_rt8.bits (fun HT_ HW_ => ?_)
        refine pure_ (i := 0) (N := some 30) (v := ?_) (a' := ?_) #[true, false, false, false, false, false, false, false, false, false, false, false, false, false, false, false, false, false] rfl rfl (any_of HT_.out (by kernel_rfl)) (fun _ _ _ h => h) (Or.inl ⟨by rfl, ?_⟩) ?_ ?_
        rotate_left
        · intro w'
          go_simp; first | done | with_reducible rfl
        rotate_left
        · simp only [Act.put, List.setIfInBounds_toArray, List.set_cons_zero, List.set_cons_succ, i64_w, i32_w]
          rfl
        refine take_ (i := 1) (N := some 31) (v := ?_) (a' := ?_) #[true, true, false, false, false, false, false, false, false, false, false, false, false, false, false, false, false, false] rfl rfl (take_ofW HT_.out HW_.out (by kernel_rfl)) (fun _ _ _ h => h) (Or.inl ⟨by rfl, ?_⟩) hHeld ?_ ?_
        rotate_left
        · intro w' hS'
          have hk0 := (blk_cell hS' 0).trans rfl
          go_simp; first | done | with_reducible rfl
        rotate_left
        · simp only [Act.put, List.setIfInBounds_toArray, List.set_cons_zero, List.set_cons_succ, i64_w, i32_w]
          rfl
        refine pure_ (i := 2) (N := some 32) (v := ?_) (a' := ?_) #[true, true, true, false, false, false, false, false, false, false, false, false, false, false, false, false, false, false] rfl rfl (any_of HT_.out (by kernel_rfl)) (fun _ _ _ h => h) (Or.inl ⟨by rfl, ?_⟩) ?_ ?_
        rotate_left
        · intro w'
          go_simp; first | done | with_reducible rfl
        rotate_left
        · simp only [Act.put, List.setIfInBounds_toArray, List.set_cons_zero, List.set_cons_succ, i64_w, i32_w]
          rfl
        refine pure_ (i := 3) (N := some 33) (v := ?_) (a' := ?_) #[true, true, true, true, false, false, false, false, false, false, false, false, false, false, false, false, false, false] rfl rfl (any_of HT_.out (by kernel_rfl)) (fun _ _ _ h => h) (Or.inl ⟨by rfl, ?_⟩) ?_ ?_
        rotate_left
        · intro w'
          go_simp; first | done | with_reducible rfl
        rotate_left
        · simp only [Act.put, List.setIfInBounds_toArray, List.set_cons_zero, List.set_cons_succ, i64_w, i32_w]
          rfl
        refine pure_ (i := 4) (N := some 34) (v := ?_) (a' := ?_) #[true, true, true, true, true, false, false, false, false, false, false, false, false, false, false, false, false, false] rfl rfl (any_of HT_.out (by kernel_rfl)) (fun _ _ _ h => h) (Or.inl ⟨by rfl, ?_⟩) ?_ ?_
        rotate_left
        · intro w'
          go_simp; first | done | with_reducible rfl
        rotate_left
        · simp only [Act.put, List.setIfInBounds_toArray, List.set_cons_zero, List.set_cons_succ, i64_w, i32_w]
          rfl
        refine pure_ (i := 5) (N := some 35) (v := ?_) (a' := ?_) #[true, true, true, true, true, true, false, false, false, false, false, false, false, false, false, false, false, false] rfl rfl (any_of HT_.out (by kernel_rfl)) (fun _ _ _ h => h) (Or.inl ⟨by rfl, ?_⟩) ?_ ?_
        rotate_left
        · intro w'
          go_simp; first | done | with_reducible rfl
        rotate_left
        · simp only [Act.put, List.setIfInBounds_toArray, List.set_cons_zero, List.set_cons_succ, i64_w, i32_w]
          rfl
        refine pure_ (i := 7) (N := some 37) (v := ?_) (a' := ?_) #[true, true, true, true, true, true, false, true, false, false, false, false, false, false, false, false, false, false] rfl rfl (any_of HT_.out (by kernel_rfl)) (fun _ _ _ h => h) (Or.inl ⟨by rfl, ?_⟩) ?_ ?_
        rotate_left
        · intro w'
          go_simp; first | done | with_reducible rfl
        rotate_left
        · simp only [Act.put, List.setIfInBounds_toArray, List.set_cons_zero, List.set_cons_succ, i64_w, i32_w]
          rfl
        refine pure_ (i := 10) (N := some 40) (v := ?_) (a' := ?_) #[true, true, true, true, true, true, false, true, false, false, true, false, false, false, false, false, false, false] rfl rfl (any_of HT_.out (by kernel_rfl)) (fun _ _ _ h => h) (Or.inl ⟨by rfl, ?_⟩) ?_ ?_
        rotate_left
        · intro w'
          go_simp; first | done | with_reducible rfl
        rotate_left
        · simp only [Act.put, List.setIfInBounds_toArray, List.set_cons_zero, List.set_cons_succ, i64_w, i32_w]
          rfl
        refine pure_ (i := 11) (N := some 41) (v := ?_) (a' := ?_) #[true, true, true, true, true, true, false, true, false, false, true, true, false, false, false, false, false, false] rfl rfl (any_of HT_.out (by kernel_rfl)) (fun _ _ _ h => h) (Or.inl ⟨by rfl, ?_⟩) ?_ ?_
        rotate_left
        · intro w'
          go_simp; first | done | with_reducible rfl
        rotate_left
        · simp only [Act.put, List.setIfInBounds_toArray, List.set_cons_zero, List.set_cons_succ, i64_w, i32_w]
          rfl
        refine pure_ (i := 13) (N := some 43) (v := ?_) (a' := ?_) #[true, true, true, true, true, true, false, true, false, false, true, true, false, true, false, false, false, false] rfl rfl (any_of HT_.out (by kernel_rfl)) (fun _ _ _ h => h) (Or.inl ⟨by rfl, ?_⟩) ?_ ?_
        rotate_left
        · intro w'
          go_simp; first | done | with_reducible rfl
        rotate_left
        · simp only [Act.put, List.setIfInBounds_toArray, List.set_cons_zero, List.set_cons_succ, i64_w, i32_w]
          rfl
        refine take_ (i := 6) (N := some 36) (v := ?_) (a' := ?_) #[true, true, true, true, true, true, true, true, false, false, true, true, false, true, false, false, false, false] rfl rfl (take_ofW HT_.out HW_.out (by kernel_rfl)) (fun _ _ _ h => h) (Or.inl ⟨by rfl, ?_⟩) hHeld ?_ ?_
        rotate_left
        · intro w' hS'
          have hk0 := (blk_cell hS' 1).trans rfl
          go_simp; first | done | with_reducible rfl
        rotate_left
        · simp only [Act.put, List.setIfInBounds_toArray, List.set_cons_zero, List.set_cons_succ, i64_w, i32_w]
          rfl
        refine take_ (i := 8) (N := some 38) (v := ?_) (a' := ?_) #[true, true, true, true, true, true, true, true, true, false, true, true, false, true, false, false, false, false] rfl rfl (take_ofW HT_.out HW_.out (by kernel_rfl)) (fun _ _ _ h => h) (Or.inl ⟨by rfl, ?_⟩) hHeld ?_ ?_
        rotate_left
        · intro w' hS'
          have hk0 := (blk_cell hS' 2).trans rfl
          go_simp; first | done | with_reducible rfl
        rotate_left
        · simp only [Act.put, List.setIfInBounds_toArray, List.set_cons_zero, List.set_cons_succ, i64_w, i32_w]
          rfl
        refine take_ (i := 12) (N := some 42) (v := ?_) (a' := ?_) #[true, true, true, true, true, true, true, true, true, false, true, true, true, true, false, false, false, false] rfl rfl (take_ofW HT_.out HW_.out (by kernel_rfl)) (fun _ _ _ h => h) (Or.inl ⟨by rfl, ?_⟩) hHeld ?_ ?_
        rotate_left
        · intro w' hS'
          have hk0 := (blk_cell hS' 1).trans rfl
          go_simp; first | done | with_reducible rfl
        rotate_left
        · simp only [Act.put, List.setIfInBounds_toArray, List.set_cons_zero, List.set_cons_succ, i64_w, i32_w]
          rfl
        refine take_ (i := 14) (N := some 44) (v := ?_) (a' := ?_) #[true, true, true, true, true, true, true, true, true, false, true, true, true, true, true, false, false, false] rfl rfl (take_ofW HT_.out HW_.out (by kernel_rfl)) (fun _ _ _ h => h) (Or.inl ⟨by rfl, ?_⟩) hHeld ?_ ?_
        rotate_left
        · intro w' hS'
          have hk0 := (blk_cell hS' 2).trans rfl
          go_simp; first | done | with_reducible rfl
        rotate_left
        · simp only [Act.put, List.setIfInBounds_toArray, List.set_cons_zero, List.set_cons_succ, i64_w, i32_w]
          rfl
        refine one_ (i := 9) (N := some 39) #[true, true, true, true, true, true, true, true, true, true, true, true, true, true, true, false, false, false] rfl rfl (one_of HT_.out (by kernel_rfl)) (by decide) (fun K hK => ?_)
        refine goes_ Try.func53 (by kernel_rfl) rfl #[.pointer (some ⟨gp, 0, none⟩), .int .i64 (m : Int), .bool on] (by rfl) rfl rfl (by (try simp only [List.map_toArray, List.map_cons, List.map_nil]); first | done | rfl) ?_
        refine (bits_Set_in gp l m on w.heap.size w _ (HO.out.below (below_drew (Below.refl _ _))) (below_drew HB.out) hml HL.out).mono ?_
        rintro e w5 ⟨rfl, ho, hb, hk⟩
        refine ⟨_, rfl, ?_⟩
        have HO5 := Aside0.mk ho
        have HB5 := Aside0.mk hb
        have HJ5 := Aside0.mk ((HJ.out.below (below_drew (Below.refl _ _))).tykeep hk)
        have HK5 := Aside0.mk ((hk.2 g8 _ _ HK.out (by decide)).trans HK.out)
        clear ho hb hk
        refine hK.out _ _ (HK5.out) (fun hHeld => ?_)
        clear hK K
        refine norm_ (a' := ?_) ?_ ?_
        rotate_left
        · show Act.put _ (some 39) _ = _
          simp only [Act.put, List.setIfInBounds_toArray, List.set_cons_zero, List.set_cons_succ, i64_w, i32_w]
          rfl
        refine one_ (i := 15) (N := some 45) #[true, true, true, true, true, true, true, true, true, true, true, true, true, true, true, true, false, false] rfl rfl (one_of HT_.out (by kernel_rfl)) (by decide) (fun K hK => ?_)
        refine goes_ Try.func54 (by kernel_rfl) rfl #[.pointer (some ⟨gr, 0, none⟩), .int .i64 (m : Int), .bool on] (by rfl) rfl rfl (by (try simp only [List.map_toArray, List.map_cons, List.map_nil]); first | done | rfl) ?_
        refine (ref_Set_in gr l m on w.heap.size w _ HJ5.out HB5.out hml).mono ?_
        rintro e w6 ⟨rfl, ho, hb, hk⟩
        refine ⟨_, rfl, ?_⟩
        have HJ6 := Aside0.mk ho
        have HB6 := Aside0.mk hb
        have HO6 := Aside0.mk (HO5.out.tykeep hk)
        have HK6 := Aside0.mk ((hk.2 g8 _ _ HK5.out (by decide)).trans HK5.out)
        clear ho hb hk
        refine hK.out _ _ (HK6.out) (fun hHeld => ?_)
        clear hK K
        refine norm_ (a' := ?_) ?_ ?_
        rotate_left
        · show Act.put _ (some 45) _ = _
          simp only [Act.put, List.setIfInBounds_toArray, List.set_cons_zero, List.set_cons_succ, i64_w, i32_w]
          rfl
        refine pure_ (i := 16) (N := some 46) (v := ?_) (a' := ?_) #[true, true, true, true, true, true, true, true, true, true, true, true, true, true, true, true, true, false] rfl rfl (any_of HT_.out (by kernel_rfl)) (fun _ _ _ h => h) (Or.inl ⟨by rfl, ?_⟩) ?_ ?_
        rotate_left
        · intro w'
          go_simp; first | done | with_reducible rfl
        rotate_left
        · simp only [Act.put, List.setIfInBounds_toArray, List.set_cons_zero, List.set_cons_succ, i64_w, i32_w]
          rfl
        refine pure_ (i := 17) (N := some 47) (v := ?_) (a' := ?_) #[true, true, true, true, true, true, true, true, true, true, true, true, true, true, true, true, true, true] rfl rfl (any_of HT_.out (by kernel_rfl)) (fun _ _ _ h => h) (Or.inl ⟨by rfl, ?_⟩) ?_ ?_
        rotate_left
        · intro w'
          go_simp; first | done | with_reducible rfl
        rotate_left
        · simp only [Act.put, List.setIfInBounds_toArray, List.set_cons_zero, List.set_cons_succ, i64_w, i32_w]
          rfl
        refine done_ (done_of HT_.out (by kernel_rfl)) ?_
        obtain ⟨l2, hl2⟩ : ∃ l2, l.set m on = l2 := ⟨_, rfl⟩
        rw [hl2] at HO6 HJ6
        have HLN2 : Aside0 (l2.length = N) := ⟨by rw [← hl2, List.length_set]; exact HLN.out⟩
        have HL2 : Aside0 (l2.length ≤ 4096) := ⟨by rw [← hl2, List.length_set]; exact HL.out⟩
        clear HT_ HW_ hHeld HO HJ HB HK HO5 HJ5 HB5 HK5 hl2
        have HO := HO6
        have HJ := HJ6
        have HB := HB6
        have HK := HK6
        clear HO6 HJ6 HB6 HK6 hml
        go_upto_region 10 with (fail)
        refine start_ (n := 37) (S := fun w' => BRow w' w.heap.size gp l2 ∧ RefRow w' w.heap.size gr l2 ∧ Below w.heap.size w w' ∧ w'.heap[g8]? = some (.cells #[.int .i64 1, .int .i64 (m : Int), .bool on] 58 (0, 0))) (ds := []) #[false, false, false, false, false, false, false, false, false, false, false, false, false, false, false, false, false, false, false, false, false, false, false, false, false, false, false, false, false, false, false, false, false, false, false, false, false] (by kernel_rfl) rfl rfl (And.intro (HO.out.below (below_drew (Below.refl _ _))) (And.intro (HJ.out.below (below_drew (Below.refl _ _))) (And.intro (below_drew HB.out) HK.out))) (fun hHeld => ?_); refine with_tabW play_rt10.tab play_rt10.bits (fun HT_ HW_ => ?_)
        refine pure_ (i := 0) (N := some 48) (v := ?_) (a' := ?_) #[true, false, false, false, false, false, false, false, false, false, false, false, false, false, false, false, false, false, false, false, false, false, false, false, false, false, false, false, false, false, false, false, false, false, false, false, false] rfl rfl (any_of HT_.out (by kernel_rfl)) (fun _ _ _ h => h) (Or.inl ⟨by rfl, ?_⟩) ?_ ?_
        rotate_left
        · intro w'
          go_simp; first | done | with_reducible rfl
        rotate_left
        · simp only [Act.put, List.setIfInBounds_toArray, List.set_cons_zero, List.set_cons_succ, i64_w, i32_w]
          rfl
        refine pure_ (i := 1) (N := some 49) (v := ?_) (a' := ?_) #[true, true, false, false, false, false, false, false, false, false, false, false, false, false, false, false, false, false, false, false, false, false, false, false, false, false, false, false, false, false, false, false, false, false, false, false, false] rfl rfl (any_of HT_.out (by kernel_rfl)) (fun _ _ _ h => h) (Or.inl ⟨by rfl, ?_⟩) ?_ ?_
        rotate_left
        · intro w'
          go_simp; first | done | with_reducible rfl
        rotate_left
        · simp only [Act.put, List.setIfInBounds_toArray, List.set_cons_zero, List.set_cons_succ, i64_w, i32_w]
          rfl
        refine pure_ (i := 4) (N := some 52) (v := ?_) (a' := ?_) #[true, true, false, false, true, false, false, false, false, false, false, false, false, false, false, false, false, false, false, false, false, false, false, false, false, false, false, false, false, false, false, false, false, false, false, false, false] rfl rfl (any_of HT_.out (by kernel_rfl)) (fun _ _ _ h => h) (Or.inl ⟨by rfl, ?_⟩) ?_ ?_
        rotate_left
        · intro w'
          go_simp; first | done | with_reducible rfl
        rotate_left
        · simp only [Act.put, List.setIfInBounds_toArray, List.set_cons_zero, List.set_cons_succ, i64_w, i32_w]
          rfl
        refine pure_ (i := 5) (N := some 53) (v := ?_) (a' := ?_) #[true, true, false, false, true, true, false, false, false, false, false, false, false, false, false, false, false, false, false, false, false, false, false, false, false, false, false, false, false, false, false, false, false, false, false, false, false] rfl rfl (any_of HT_.out (by kernel_rfl)) (fun _ _ _ h => h) (Or.inl ⟨by rfl, ?_⟩) ?_ ?_
        rotate_left
        · intro w'
          go_simp; first | done | with_reducible rfl
        rotate_left
        · simp only [Act.put, List.setIfInBounds_toArray, List.set_cons_zero, List.set_cons_succ, i64_w, i32_w]
          rfl
        refine take_ (i := 2) (N := some 50) (v := ?_) (a' := ?_) #[true, true, true, false, true, true, false, false, false, false, false, false, false, false, false, false, false, false, false, false, false, false, false, false, false, false, false, false, false, false, false, false, false, false, false, false, false] rfl rfl (take_ofW HT_.out HW_.out (by kernel_rfl)) (fun _ _ _ h => h) (Or.inl ⟨by rfl, ?_⟩) hHeld ?_ ?_
        rotate_left
        · intro w' hS'
          have hk0 := (blk_cell hS'.2.2.2 1).trans rfl
          go_simp; first | done | with_reducible rfl
        rotate_left
        · simp only [Act.put, List.setIfInBounds_toArray, List.set_cons_zero, List.set_cons_succ, i64_w, i32_w]
          rfl
        refine take_ (i := 6) (N := some 54) (v := ?_) (a' := ?_) #[true, true, true, false, true, true, true, false, false, false, false, false, false, false, false, false, false, false, false, false, false, false, false, false, false, false, false, false, false, false, false, false, false, false, false, false, false] rfl rfl (take_ofW HT_.out HW_.out (by kernel_rfl)) (fun _ _ _ h => h) (Or.inl ⟨by rfl, ?_⟩) hHeld ?_ ?_
        rotate_left
        · intro w' hS'
          have hk0 := (blk_cell hS'.2.2.2 1).trans rfl
          go_simp; first | done | with_reducible rfl
        rotate_left
        · simp only [Act.put, List.setIfInBounds_toArray, List.set_cons_zero, List.set_cons_succ, i64_w, i32_w]
          rfl
        refine one_ (i := 3) (N := some 51) #[true, true, true, true, true, true, true, false, false, false, false, false, false, false, false, false, false, false, false, false, false, false, false, false, false, false, false, false, false, false, false, false, false, false, false, false, false] rfl rfl (one_of HT_.out (by kernel_rfl)) (by decide) (fun K hK => ?_)
        refine goes_ Try.func44 (by kernel_rfl) rfl #[.pointer (some ⟨gp, 0, none⟩), .int .i64 (m : Int)] (by rfl) rfl rfl (by (try simp only [List.map_toArray, List.map_cons, List.map_nil]); first | done | rfl) ?_
        refine (bits_Get_calls gp l2 (m : Int) w.heap.size _ hHeld.1 HL2.out).mono ?_
        rintro e w5 ⟨rfl, rfl⟩
        refine ⟨_, rfl, ?_⟩
        refine hK.out _ _ (hHeld) (fun hHeld => ?_)
        clear hK K
        refine norm_ (a' := ?_) ?_ ?_
        rotate_left
        · show Act.put _ (some 51) _ = _
          simp only [Act.put, List.setIfInBounds_toArray, List.set_cons_zero, List.set_cons_succ, i64_w, i32_w]
          rfl
        refine one_ (i := 7) (N := some 55) #[true, true, true, true, true, true, true, true, false, false, false, false, false, false, false, false, false, false, false, false, false, false, false, false, false, false, false, false, false, false, false, false, false, false, false, false, false] rfl rfl (one_of HT_.out (by kernel_rfl)) (by decide) (fun K hK => ?_)
        refine goes_ Try.func55 (by kernel_rfl) rfl #[.pointer (some ⟨gr, 0, none⟩), .int .i64 (m : Int)] (by rfl) rfl rfl (by (try simp only [List.map_toArray, List.map_cons, List.map_nil]); first | done | rfl) ?_
        refine (ref_Get_calls gr l2 (m : Int) w.heap.size _ hHeld.2.1).mono ?_
        rintro e w6 ⟨rfl, rfl⟩
        refine ⟨_, rfl, ?_⟩
        refine hK.out _ _ (hHeld) (fun hHeld => ?_)
        clear hK K
        refine norm_ (a' := ?_) ?_ ?_
        rotate_left
        · show Act.put _ (some 55) _ = _
          simp only [Act.put, List.setIfInBounds_toArray, List.set_cons_zero, List.set_cons_succ, i64_w, i32_w]
          rfl
        refine pure_ (i := 8) (N := some 56) (v := ?_) (a' := ?_) #[true, true, true, true, true, true, true, true, true, false, false, false, false, false, false, false, false, false, false, false, false, false, false, false, false, false, false, false, false, false, false, false, false, false, false, false, false] rfl rfl (any_of HT_.out (by kernel_rfl)) (fun _ _ _ h => h) (Or.inl ⟨by rfl, ?_⟩) ?_ ?_
        rotate_left
        · intro w'
          go_simp; first | done | with_reducible rfl
        rotate_left
        · simp only [Act.put, List.setIfInBounds_toArray, List.set_cons_zero, List.set_cons_succ, i64_w, i32_w]
          rfl
        refine pure_ (i := 9) (N := some 57) (v := ?_) (a' := ?_) #[true, true, true, true, true, true, true, true, true, true, false, false, false, false, false, false, false, false, false, false, false, false, false, false, false, false, false, false, false, false, false, false, false, false, false, false, false] rfl rfl (any_of HT_.out (by kernel_rfl)) (fun _ _ _ h => h) (Or.inl ⟨by rfl, ?_⟩) ?_ ?_
        rotate_left
        · intro w'
          go_simp; first | done | with_reducible rfl
        rotate_left
        · simp only [Act.put, List.setIfInBounds_toArray, List.set_cons_zero, List.set_cons_succ, i64_w, i32_w]
          rfl
        refine pure_ (i := 10) (N := some 58) (v := ?_) (a' := ?_) #[true, true, true, true, true, true, true, true, true, true, true, false, false, false, false, false, false, false, false, false, false, false, false, false, false, false, false, false, false, false, false, false, false, false, false, false, false] rfl rfl (any_of HT_.out (by kernel_rfl)) (fun _ _ _ h => h) (Or.inl ⟨by rfl, ?_⟩) ?_ ?_
        rotate_left
        · intro w'
          go_simp; first | done | with_reducible rfl
        rotate_left
        · simp only [Act.put, List.setIfInBounds_toArray, List.set_cons_zero, List.set_cons_succ, i64_w, i32_w]
          rfl
        refine pure_ (i := 11) (N := some 59) (v := ?_) (a' := ?_) #[true, true, true, true, true, true, true, true, true, true, true, true, false, false, false, false, false, false, false, false, false, false, false, false, false, false, false, false, false, false, false, false, false, false, false, false, false] rfl rfl (any_of HT_.out (by kernel_rfl)) (fun _ _ _ h => h) (Or.inl ⟨by rfl, ?_⟩) ?_ ?_
        rotate_left
        · intro w'
          go_simp; first | done | with_reducible rfl
        rotate_left
        · simp only [Act.put, List.setIfInBounds_toArray, List.set_cons_zero, List.set_cons_succ, i64_w, i32_w]
          rfl
        refine pure_ (i := 14) (N := some 62) (v := ?_) (a' := ?_) #[true, true, true, true, true, true, true, true, true, true, true, true, false, false, true, false, false, false, false, false, false, false, false, false, false, false, false, false, false, false, false, false, false, false, false, false, false] rfl rfl (any_of HT_.out (by kernel_rfl)) (fun _ _ _ h => h) (Or.inl ⟨by rfl, ?_⟩) ?_ ?_
        rotate_left
        · intro w'
          go_simp; first | done | with_reducible rfl
        rotate_left
        · simp only [Act.put, List.setIfInBounds_toArray, List.set_cons_zero, List.set_cons_succ, i64_w, i32_w]
          rfl
        refine pure_ (i := 15) (N := some 63) (v := ?_) (a' := ?_) #[true, true, true, true, true, true, true, true, true, true, true, true, false, false, true, true, false, false, false, false, false, false, false, false, false, false, false, false, false, false, false, false, false, false, false, false, false] rfl rfl (any_of HT_.out (by kernel_rfl)) (fun _ _ _ h => h) (Or.inl ⟨by rfl, ?_⟩) ?_ ?_
        rotate_left
        · intro w'
          go_simp; first | done | with_reducible rfl
        rotate_left
        · simp only [Act.put, List.setIfInBounds_toArray, List.set_cons_zero, List.set_cons_succ, i64_w, i32_w]
          rfl
        refine take_ (i := 12) (N := some 60) (v := ?_) (a' := ?_) #[true, true, true, true, true, true, true, true, true, true, true, true, true, false, true, true, false, false, false, false, false, false, false, false, false, false, false, false, false, false, false, false, false, false, false, false, false] rfl rfl (take_ofW HT_.out HW_.out (by kernel_rfl)) (fun _ _ _ h => h) (Or.inl ⟨by rfl, ?_⟩) hHeld ?_ ?_
        rotate_left
        · intro w' hS'
          have hk0 := (blk_cell hS'.2.2.2 1).trans rfl
          go_simp; first | done | with_reducible rfl
        rotate_left
        · simp only [Act.put, List.setIfInBounds_toArray, List.set_cons_zero, List.set_cons_succ, i64_w, i32_w]
          rfl
        refine take_ (i := 16) (N := some 64) (v := ?_) (a' := ?_) #[true, true, true, true, true, true, true, true, true, true, true, true, true, false, true, true, true, false, false, false, false, false, false, false, false, false, false, false, false, false, false, false, false, false, false, false, false] rfl rfl (take_ofW HT_.out HW_.out (by kernel_rfl)) (fun _ _ _ h => h) (Or.inl ⟨by rfl, ?_⟩) hHeld ?_ ?_
        rotate_left
        · intro w' hS'
          have hk0 := (blk_cell hS'.2.2.2 1).trans rfl
          go_simp; first | done | with_reducible rfl
        rotate_left
        · simp only [Act.put, List.setIfInBounds_toArray, List.set_cons_zero, List.set_cons_succ, i64_w, i32_w]
          rfl
        refine one_ (i := 13) (N := some 61) #[true, true, true, true, true, true, true, true, true, true, true, true, true, true, true, true, true, false, false, false, false, false, false, false, false, false, false, false, false, false, false, false, false, false, false, false, false] rfl rfl (one_of HT_.out (by kernel_rfl)) (by decide) (fun K hK => ?_)
        refine goes_ Try.func48 (by kernel_rfl) rfl #[.pointer (some ⟨gp, 0, none⟩), .int .i64 (m : Int)] (by rfl) rfl rfl (by (try simp only [List.map_toArray, List.map_cons, List.map_nil]); first | done | rfl) ?_
        refine (bits_First_calls gp l2 (m : Int) w.heap.size _ hHeld.1 HL2.out).mono ?_
        rintro e w7 ⟨rfl, rfl⟩
        refine ⟨_, rfl, ?_⟩
        refine hK.out _ _ (hHeld) (fun hHeld => ?_)
        clear hK K
        refine norm_ (a' := ?_) ?_ ?_
        rotate_left
        · show Act.put _ (some 61) _ = _
          simp only [Act.put, List.setIfInBounds_toArray, List.set_cons_zero, List.set_cons_succ, i64_w, i32_w]
          rfl
        refine one_ (i := 17) (N := some 65) #[true, true, true, true, true, true, true, true, true, true, true, true, true, true, true, true, true, true, false, false, false, false, false, false, false, false, false, false, false, false, false, false, false, false, false, false, false] rfl rfl (one_of HT_.out (by kernel_rfl)) (by decide) (fun K hK => ?_)
        refine goes_ Try.func49 (by kernel_rfl) rfl #[.pointer (some ⟨gr, 0, none⟩), .int .i64 (m : Int)] (by rfl) rfl rfl (by (try simp only [List.map_toArray, List.map_cons, List.map_nil]); first | done | rfl) ?_
        refine (ref_First_calls gr l2 (m : Int) w.heap.size _ hHeld.2.1 HL2.out).mono ?_
        rintro e w8 ⟨rfl, rfl⟩
        refine ⟨_, rfl, ?_⟩
        refine hK.out _ _ (hHeld) (fun hHeld => ?_)
        clear hK K
        refine norm_ (a' := ?_) ?_ ?_
        rotate_left
        · show Act.put _ (some 65) _ = _
          simp only [Act.put, List.setIfInBounds_toArray, List.set_cons_zero, List.set_cons_succ, i64_w, i32_w]
          rfl
        refine pure_ (i := 18) (N := some 66) (v := ?_) (a' := ?_) #[true, true, true, true, true, true, true, true, true, true, true, true, true, true, true, true, true, true, true, false, false, false, false, false, false, false, false, false, false, false, false, false, false, false, false, false, false] rfl rfl (any_of HT_.out (by kernel_rfl)) (fun _ _ _ h => h) (Or.inl ⟨by rfl, ?_⟩) ?_ ?_
        rotate_left
        · intro w'
          go_simp; first | done | with_reducible rfl
        rotate_left
        · simp only [Act.put, List.setIfInBounds_toArray, List.set_cons_zero, List.set_cons_succ, i64_w, i32_w]
          rfl
        refine pure_ (i := 19) (N := some 67) (v := ?_) (a' := ?_) #[true, true, true, true, true, true, true, true, true, true, true, true, true, true, true, true, true, true, true, true, false, false, false, false, false, false, false, false, false, false, false, false, false, false, false, false, false] rfl rfl (any_of HT_.out (by kernel_rfl)) (fun _ _ _ h => h) (Or.inl ⟨by rfl, ?_⟩) ?_ ?_
        rotate_left
        · intro w'
          go_simp; first | done | with_reducible rfl
        rotate_left
        · simp only [Act.put, List.setIfInBounds_toArray, List.set_cons_zero, List.set_cons_succ, i64_w, i32_w]
          rfl
        refine pure_ (i := 20) (N := some 68) (v := ?_) (a' := ?_) #[true, true, true, true, true, true, true, true, true, true, true, true, true, true, true, true, true, true, true, true, true, false, false, false, false, false, false, false, false, false, false, false, false, false, false, false, false] rfl rfl (any_of HT_.out (by kernel_rfl)) (fun _ _ _ h => h) (Or.inl ⟨by rfl, ?_⟩) ?_ ?_
        rotate_left
        · intro w'
          go_simp; first | done | with_reducible rfl
        rotate_left
        · simp only [Act.put, List.setIfInBounds_toArray, List.set_cons_zero, List.set_cons_succ, i64_w, i32_w]
          rfl
        refine pure_ (i := 21) (N := some 69) (v := ?_) (a' := ?_) #[true, true, true, true, true, true, true, true, true, true, true, true, true, true, true, true, true, true, true, true, true, true, false, false, false, false, false, false, false, false, false, false, false, false, false, false, false] rfl rfl (any_of HT_.out (by kernel_rfl)) (fun _ _ _ h => h) (Or.inl ⟨by rfl, ?_⟩) ?_ ?_
        rotate_left
        · intro w'
          go_simp; first | done | with_reducible rfl
        rotate_left
        · simp only [Act.put, List.setIfInBounds_toArray, List.set_cons_zero, List.set_cons_succ, i64_w, i32_w]
          rfl
        refine pure_ (i := 22) (N := some 70) (v := ?_) (a' := ?_) #[true, true, true, true, true, true, true, true, true, true, true, true, true, true, true, true, true, true, true, true, true, true, true, false, false, false, false, false, false, false, false, false, false, false, false, false, false] rfl rfl (any_of HT_.out (by kernel_rfl)) (fun _ _ _ h => h) (Or.inl ⟨by rfl, ?_⟩) ?_ ?_
        rotate_left
        · intro w'
          go_simp; first | done | with_reducible rfl
        rotate_left
        · simp only [Act.put, List.setIfInBounds_toArray, List.set_cons_zero, List.set_cons_succ, i64_w, i32_w]
          rfl
        refine pure_ (i := 25) (N := some 73) (v := ?_) (a' := ?_) #[true, true, true, true, true, true, true, true, true, true, true, true, true, true, true, true, true, true, true, true, true, true, true, false, false, true, false, false, false, false, false, false, false, false, false, false, false] rfl rfl (any_of HT_.out (by kernel_rfl)) (fun _ _ _ h => h) (Or.inl ⟨by rfl, ?_⟩) ?_ ?_
        rotate_left
        · intro w'
          go_simp; first | done | with_reducible rfl
        rotate_left
        · simp only [Act.put, List.setIfInBounds_toArray, List.set_cons_zero, List.set_cons_succ, i64_w, i32_w]
          rfl
        refine pure_ (i := 26) (N := some 74) (v := ?_) (a' := ?_) #[true, true, true, true, true, true, true, true, true, true, true, true, true, true, true, true, true, true, true, true, true, true, true, false, false, true, true, false, false, false, false, false, false, false, false, false, false] rfl rfl (any_of HT_.out (by kernel_rfl)) (fun _ _ _ h => h) (Or.inl ⟨by rfl, ?_⟩) ?_ ?_
        rotate_left
        · intro w'
          go_simp; first | done | with_reducible rfl
        rotate_left
        · simp only [Act.put, List.setIfInBounds_toArray, List.set_cons_zero, List.set_cons_succ, i64_w, i32_w]
          rfl
        refine take_ (i := 23) (N := some 71) (v := ?_) (a' := ?_) #[true, true, true, true, true, true, true, true, true, true, true, true, true, true, true, true, true, true, true, true, true, true, true, true, false, true, true, false, false, false, false, false, false, false, false, false, false] rfl rfl (take_ofW HT_.out HW_.out (by kernel_rfl)) (fun _ _ _ h => h) (Or.inl ⟨by rfl, ?_⟩) hHeld ?_ ?_
        rotate_left
        · intro w' hS'
          have hk0 := (blk_cell hS'.2.2.2 1).trans rfl
          go_simp; first | done | with_reducible rfl
        rotate_left
        · simp only [Act.put, List.setIfInBounds_toArray, List.set_cons_zero, List.set_cons_succ, i64_w, i32_w]
          rfl
        refine take_ (i := 27) (N := some 75) (v := ?_) (a' := ?_) #[true, true, true, true, true, true, true, true, true, true, true, true, true, true, true, true, true, true, true, true, true, true, true, true, false, true, true, true, false, false, false, false, false, false, false, false, false] rfl rfl (take_ofW HT_.out HW_.out (by kernel_rfl)) (fun _ _ _ h => h) (Or.inl ⟨by rfl, ?_⟩) hHeld ?_ ?_
        rotate_left
        · intro w' hS'
          have hk0 := (blk_cell hS'.2.2.2 1).trans rfl
          go_simp; first | done | with_reducible rfl
        rotate_left
        · simp only [Act.put, List.setIfInBounds_toArray, List.set_cons_zero, List.set_cons_succ, i64_w, i32_w]
          rfl
        refine one_ (i := 24) (N := some 72) #[true, true, true, true, true, true, true, true, true, true, true, true, true, true, true, true, true, true, true, true, true, true, true, true, true, true, true, true, false, false, false, false, false, false, false, false, false] rfl rfl (one_of HT_.out (by kernel_rfl)) (by decide) (fun K hK => ?_)
        refine goes_ Try.func42 (by kernel_rfl) rfl #[.pointer (some ⟨gp, 0, none⟩), .int .i64 (m : Int)] (by rfl) rfl rfl (by (try simp only [List.map_toArray, List.map_cons, List.map_nil]); first | done | rfl) ?_
        refine (bits_Run_calls gp l2 (m : Int) w.heap.size _ hHeld.1 HL2.out HII.out).mono ?_
        rintro e w9 ⟨rfl, rfl⟩
        refine ⟨_, rfl, ?_⟩
        refine hK.out _ _ (hHeld) (fun hHeld => ?_)
        clear hK K
        refine norm_ (a' := ?_) ?_ ?_
        rotate_left
        · show Act.put _ (some 72) _ = _
          simp only [Act.put, List.setIfInBounds_toArray, List.set_cons_zero, List.set_cons_succ, i64_w, i32_w]
          rfl
        refine one_ (i := 28) (N := some 76) #[true, true, true, true, true, true, true, true, true, true, true, true, true, true, true, true, true, true, true, true, true, true, true, true, true, true, true, true, true, false, false, false, false, false, false, false, false] rfl rfl (one_of HT_.out (by kernel_rfl)) (by decide) (fun K hK => ?_)
        refine goes_ Try.func50 (by kernel_rfl) rfl #[.pointer (some ⟨gr, 0, none⟩), .int .i64 (m : Int)] (by rfl) rfl rfl (by (try simp only [List.map_toArray, List.map_cons, List.map_nil]); first | done | rfl) ?_
        refine (ref_Run_calls gr l2 (m : Int) w.heap.size _ hHeld.2.1 HL2.out).mono ?_
        rintro e w10 ⟨rfl, rfl⟩
        refine ⟨_, rfl, ?_⟩
        refine hK.out _ _ (hHeld) (fun hHeld => ?_)
        clear hK K
        refine norm_ (a' := ?_) ?_ ?_
        rotate_left
        · show Act.put _ (some 76) _ = _
          simp only [Act.put, List.setIfInBounds_toArray, List.set_cons_zero, List.set_cons_succ, i64_w, i32_w]
          rfl
        refine pure_ (i := 29) (N := some 77) (v := ?_) (a' := ?_) #[true, true, true, true, true, true, true, true, true, true, true, true, true, true, true, true, true, true, true, true, true, true, true, true, true, true, true, true, true, true, false, false, false, false, false, false, false] rfl rfl (any_of HT_.out (by kernel_rfl)) (fun _ _ _ h => h) (Or.inl ⟨by rfl, ?_⟩) ?_ ?_
        rotate_left
        · intro w'
          go_simp; first | done | with_reducible rfl
        rotate_left
        · simp only [Act.put, List.setIfInBounds_toArray, List.set_cons_zero, List.set_cons_succ, i64_w, i32_w]
          rfl
        refine pure_ (i := 30) (N := some 78) (v := ?_) (a' := ?_) #[true, true, true, true, true, true, true, true, true, true, true, true, true, true, true, true, true, true, true, true, true, true, true, true, true, true, true, true, true, true, true, false, false, false, false, false, false] rfl rfl (any_of HT_.out (by kernel_rfl)) (fun _ _ _ h => h) (Or.inl ⟨by rfl, ?_⟩) ?_ ?_
        rotate_left
        · intro w'
          go_simp; first | done | with_reducible rfl
        rotate_left
        · simp only [Act.put, List.setIfInBounds_toArray, List.set_cons_zero, List.set_cons_succ, i64_w, i32_w]
          rfl
        refine pure_ (i := 31) (N := some 79) (v := ?_) (a' := ?_) #[true, true, true, true, true, true, true, true, true, true, true, true, true, true, true, true, true, true, true, true, true, true, true, true, true, true, true, true, true, true, true, true, false, false, false, false, false] rfl rfl (any_of HT_.out (by kernel_rfl)) (fun _ _ _ h => h) (Or.inl ⟨by rfl, ?_⟩) ?_ ?_
        rotate_left
        · intro w'
          go_simp; first | done | with_reducible rfl
        rotate_left
        · simp only [Act.put, List.setIfInBounds_toArray, List.set_cons_zero, List.set_cons_succ, i64_w, i32_w]
          rfl
        refine pure_ (i := 32) (N := some 80) (v := ?_) (a' := ?_) #[true, true, true, true, true, true, true, true, true, true, true, true, true, true, true, true, true, true, true, true, true, true, true, true, true, true, true, true, true, true, true, true, true, false, false, false, false] rfl rfl (any_of HT_.out (by kernel_rfl)) (fun _ _ _ h => h) (Or.inl ⟨by rfl, ?_⟩) ?_ ?_
        rotate_left
        · intro w'
          go_simp; first | done | with_reducible rfl
        rotate_left
        · simp only [Act.put, List.setIfInBounds_toArray, List.set_cons_zero, List.set_cons_succ, i64_w, i32_w]
          rfl
        refine pure_ (i := 33) (N := some 81) (v := ?_) (a' := ?_) #[true, true, true, true, true, true, true, true, true, true, true, true, true, true, true, true, true, true, true, true, true, true, true, true, true, true, true, true, true, true, true, true, true, true, false, false, false] rfl rfl (any_of HT_.out (by kernel_rfl)) (fun _ _ _ h => h) (Or.inl ⟨by rfl, ?_⟩) ?_ ?_
        rotate_left
        · intro w'
          go_simp; first | done | with_reducible rfl
        rotate_left
        · simp only [Act.put, List.setIfInBounds_toArray, List.set_cons_zero, List.set_cons_succ, i64_w, i32_w]
          rfl
        refine one_ (i := 34) (N := some 82) #[true, true, true, true, true, true, true, true, true, true, true, true, true, true, true, true, true, true, true, true, true, true, true, true, true, true, true, true, true, true, true, true, true, true, true, false, false] rfl rfl (one_of HT_.out (by kernel_rfl)) (by decide) (fun K hK => ?_)
        refine goes_ Try.func46 (by kernel_rfl) rfl #[.pointer (some ⟨gp, 0, none⟩), .pointer (some ⟨gr, 0, none⟩)] (by rfl) rfl rfl (by (try simp only [List.map_toArray, List.map_cons, List.map_nil]); first | done | rfl) ?_
        refine (same_calls gp gr l2 w.heap.size w.heap.size _ hHeld.1 hHeld.2.1 HL2.out).mono ?_
        rintro e w11 ⟨rfl, hb⟩
        refine ⟨_, rfl, ?_⟩
        have hHeld := And.intro (hHeld.1.below hb) (And.intro (hHeld.2.1.below hb) (And.intro (below_step hHeld.2.2.1 hb) (blk_below hHeld.2.2.2 hb)))
        clear hb
        refine hK.out _ _ (hHeld) (fun hHeld => ?_)
        clear hK K
        refine norm_ (a' := ?_) ?_ ?_
        rotate_left
        · show Act.put _ (some 82) _ = _
          simp only [Act.put, List.setIfInBounds_toArray, List.set_cons_zero, List.set_cons_succ, i64_w, i32_w]
          rfl
        refine pure_ (i := 35) (N := some 83) (v := ?_) (a' := ?_) #[true, true, true, true, true, true, true, true, true, true, true, true, true, true, true, true, true, true, true, true, true, true, true, true, true, true, true, true, true, true, true, true, true, true, true, true, false] rfl rfl (any_of HT_.out (by kernel_rfl)) (fun _ _ _ h => h) (Or.inl ⟨by rfl, ?_⟩) ?_ ?_
        rotate_left
        · intro w'
          go_simp; first | done | with_reducible rfl
        rotate_left
        · simp only [Act.put, List.setIfInBounds_toArray, List.set_cons_zero, List.set_cons_succ, i64_w, i32_w]
          rfl
        refine pure_ (i := 36) (N := some 84) (v := ?_) (a' := ?_) #[true, true, true, true, true, true, true, true, true, true, true, true, true, true, true, true, true, true, true, true, true, true, true, true, true, true, true, true, true, true, true, true, true, true, true, true, true] rfl rfl (any_of HT_.out (by kernel_rfl)) (fun _ _ _ h => h) (Or.inl ⟨by rfl, ?_⟩) ?_ ?_
        rotate_left
        · intro w'
          go_simp; first | done | with_reducible rfl
        rotate_left
        · simp only [Act.put, List.setIfInBounds_toArray, List.set_cons_zero, List.set_cons_succ, i64_w, i32_w]
          rfl
        refine done_ (done_of HT_.out (by kernel_rfl)) ?_
        have HO9 := Aside0.mk hHeld.1
        have HJ9 := Aside0.mk hHeld.2.1
        have HB9 := Aside0.mk hHeld.2.2.1
        clear HT_ HW_ hHeld HO HJ HB HK
        go_wp2
        go_roundw
        case rel => exact ⟨k + 1, by omega, by go_num, ⟨l2, HLN2.out, HO9.out, HJ9.out, HB9.out⟩⟩
        case measure => simp [intOf]; omega
      · subst hkd
        have HO := HO1
        have HJ := HJ1
        have HB := HB1
        have HK := HK1
        clear HO1 HJ1 HB1 HK1
        refine start_ (n := 18) (S := fun w' => w'.heap[g8]? = some (.cells #[.int .i64 1, .int .i64 ii, .bool on] 58 (0, 0))) (ds := []) #[false, false, false, false, false, false, false, false, false, false, false, false, false, false, false, false, false, false] (by kernel_rfl) rfl rfl (HK.out) (fun hHeld => ?_); refine with_tabW play_rt8.tab play_rt8.bits (fun HT_ HW_ => ?_)
        refine pure_ (i := 0) (N := some 30) (v := ?_) (a' := ?_) #[true, false, false, false, false, false, false, false, false, false, false, false, false, false, false, false, false, false] rfl rfl (any_of HT_.out (by kernel_rfl)) (fun _ _ _ h => h) (Or.inl ⟨by rfl, ?_⟩) ?_ ?_
        rotate_left
        · intro w'
          go_simp; first | done | with_reducible rfl
        rotate_left
        · simp only [Act.put, List.setIfInBounds_toArray, List.set_cons_zero, List.set_cons_succ, i64_w, i32_w]
          rfl
        refine take_ (i := 1) (N := some 31) (v := ?_) (a' := ?_) #[true, true, false, false, false, false, false, false, false, false, false, false, false, false, false, false, false, false] rfl rfl (take_ofW HT_.out HW_.out (by kernel_rfl)) (fun _ _ _ h => h) (Or.inl ⟨by rfl, ?_⟩) hHeld ?_ ?_
        rotate_left
        · intro w' hS'
          have hk0 := (blk_cell hS' 0).trans rfl
          go_simp; first | done | with_reducible rfl
        rotate_left
        · simp only [Act.put, List.setIfInBounds_toArray, List.set_cons_zero, List.set_cons_succ, i64_w, i32_w]
          rfl
        refine pure_ (i := 2) (N := some 32) (v := ?_) (a' := ?_) #[true, true, true, false, false, false, false, false, false, false, false, false, false, false, false, false, false, false] rfl rfl (any_of HT_.out (by kernel_rfl)) (fun _ _ _ h => h) (Or.inl ⟨by rfl, ?_⟩) ?_ ?_
        rotate_left
        · intro w'
          go_simp; first | done | with_reducible rfl
        rotate_left
        · simp only [Act.put, List.setIfInBounds_toArray, List.set_cons_zero, List.set_cons_succ, i64_w, i32_w]
          rfl
        refine pure_ (i := 3) (N := some 33) (v := ?_) (a' := ?_) #[true, true, true, true, false, false, false, false, false, false, false, false, false, false, false, false, false, false] rfl rfl (any_of HT_.out (by kernel_rfl)) (fun _ _ _ h => h) (Or.inl ⟨by rfl, ?_⟩) ?_ ?_
        rotate_left
        · intro w'
          go_simp; first | done | with_reducible rfl
        rotate_left
        · simp only [Act.put, List.setIfInBounds_toArray, List.set_cons_zero, List.set_cons_succ, i64_w, i32_w]
          rfl
        refine pure_ (i := 4) (N := some 34) (v := ?_) (a' := ?_) #[true, true, true, true, true, false, false, false, false, false, false, false, false, false, false, false, false, false] rfl rfl (any_of HT_.out (by kernel_rfl)) (fun _ _ _ h => h) (Or.inl ⟨by rfl, ?_⟩) ?_ ?_
        rotate_left
        · intro w'
          go_simp; first | done | with_reducible rfl
        rotate_left
        · simp only [Act.put, List.setIfInBounds_toArray, List.set_cons_zero, List.set_cons_succ, i64_w, i32_w]
          rfl
        refine pure_ (i := 5) (N := some 35) (v := ?_) (a' := ?_) #[true, true, true, true, true, true, false, false, false, false, false, false, false, false, false, false, false, false] rfl rfl (any_of HT_.out (by kernel_rfl)) (fun _ _ _ h => h) (Or.inl ⟨by rfl, ?_⟩) ?_ ?_
        rotate_left
        · intro w'
          go_simp; first | done | with_reducible rfl
        rotate_left
        · simp only [Act.put, List.setIfInBounds_toArray, List.set_cons_zero, List.set_cons_succ, i64_w, i32_w]
          rfl
        refine pure_ (i := 7) (N := some 37) (v := ?_) (a' := ?_) #[true, true, true, true, true, true, false, true, false, false, false, false, false, false, false, false, false, false] rfl rfl (any_of HT_.out (by kernel_rfl)) (fun _ _ _ h => h) (Or.inl ⟨by rfl, ?_⟩) ?_ ?_
        rotate_left
        · intro w'
          go_simp; first | done | with_reducible rfl
        rotate_left
        · simp only [Act.put, List.setIfInBounds_toArray, List.set_cons_zero, List.set_cons_succ, i64_w, i32_w]
          rfl
        refine pure_ (i := 10) (N := some 40) (v := ?_) (a' := ?_) #[true, true, true, true, true, true, false, true, false, false, true, false, false, false, false, false, false, false] rfl rfl (any_of HT_.out (by kernel_rfl)) (fun _ _ _ h => h) (Or.inl ⟨by rfl, ?_⟩) ?_ ?_
        rotate_left
        · intro w'
          go_simp; first | done | with_reducible rfl
        rotate_left
        · simp only [Act.put, List.setIfInBounds_toArray, List.set_cons_zero, List.set_cons_succ, i64_w, i32_w]
          rfl
        refine pure_ (i := 11) (N := some 41) (v := ?_) (a' := ?_) #[true, true, true, true, true, true, false, true, false, false, true, true, false, false, false, false, false, false] rfl rfl (any_of HT_.out (by kernel_rfl)) (fun _ _ _ h => h) (Or.inl ⟨by rfl, ?_⟩) ?_ ?_
        rotate_left
        · intro w'
          go_simp; first | done | with_reducible rfl
        rotate_left
        · simp only [Act.put, List.setIfInBounds_toArray, List.set_cons_zero, List.set_cons_succ, i64_w, i32_w]
          rfl
        refine pure_ (i := 13) (N := some 43) (v := ?_) (a' := ?_) #[true, true, true, true, true, true, false, true, false, false, true, true, false, true, false, false, false, false] rfl rfl (any_of HT_.out (by kernel_rfl)) (fun _ _ _ h => h) (Or.inl ⟨by rfl, ?_⟩) ?_ ?_
        rotate_left
        · intro w'
          go_simp; first | done | with_reducible rfl
        rotate_left
        · simp only [Act.put, List.setIfInBounds_toArray, List.set_cons_zero, List.set_cons_succ, i64_w, i32_w]
          rfl
        refine take_ (i := 6) (N := some 36) (v := ?_) (a' := ?_) #[true, true, true, true, true, true, true, true, false, false, true, true, false, true, false, false, false, false] rfl rfl (take_ofW HT_.out HW_.out (by kernel_rfl)) (fun _ _ _ h => h) (Or.inl ⟨by rfl, ?_⟩) hHeld ?_ ?_
        rotate_left
        · intro w' hS'
          have hk0 := (blk_cell hS' 1).trans rfl
          go_simp; first | done | with_reducible rfl
        rotate_left
        · simp only [Act.put, List.setIfInBounds_toArray, List.set_cons_zero, List.set_cons_succ, i64_w, i32_w]
          rfl
        refine take_ (i := 8) (N := some 38) (v := ?_) (a' := ?_) #[true, true, true, true, true, true, true, true, true, false, true, true, false, true, false, false, false, false] rfl rfl (take_ofW HT_.out HW_.out (by kernel_rfl)) (fun _ _ _ h => h) (Or.inl ⟨by rfl, ?_⟩) hHeld ?_ ?_
        rotate_left
        · intro w' hS'
          have hk0 := (blk_cell hS' 2).trans rfl
          go_simp; first | done | with_reducible rfl
        rotate_left
        · simp only [Act.put, List.setIfInBounds_toArray, List.set_cons_zero, List.set_cons_succ, i64_w, i32_w]
          rfl
        refine take_ (i := 12) (N := some 42) (v := ?_) (a' := ?_) #[true, true, true, true, true, true, true, true, true, false, true, true, true, true, false, false, false, false] rfl rfl (take_ofW HT_.out HW_.out (by kernel_rfl)) (fun _ _ _ h => h) (Or.inl ⟨by rfl, ?_⟩) hHeld ?_ ?_
        rotate_left
        · intro w' hS'
          have hk0 := (blk_cell hS' 1).trans rfl
          go_simp; first | done | with_reducible rfl
        rotate_left
        · simp only [Act.put, List.setIfInBounds_toArray, List.set_cons_zero, List.set_cons_succ, i64_w, i32_w]
          rfl
        refine take_ (i := 14) (N := some 44) (v := ?_) (a' := ?_) #[true, true, true, true, true, true, true, true, true, false, true, true, true, true, true, false, false, false] rfl rfl (take_ofW HT_.out HW_.out (by kernel_rfl)) (fun _ _ _ h => h) (Or.inl ⟨by rfl, ?_⟩) hHeld ?_ ?_
        rotate_left
        · intro w' hS'
          have hk0 := (blk_cell hS' 2).trans rfl
          go_simp; first | done | with_reducible rfl
        rotate_left
        · simp only [Act.put, List.setIfInBounds_toArray, List.set_cons_zero, List.set_cons_succ, i64_w, i32_w]
          rfl
        refine one_ (i := 9) (N := some 39) #[true, true, true, true, true, true, true, true, true, true, true, true, true, true, true, false, false, false] rfl rfl (one_of HT_.out (by kernel_rfl)) (by decide) (fun K hK => ?_)
        refine goes_ Try.func53 (by kernel_rfl) rfl #[.pointer (some ⟨gp, 0, none⟩), .int .i64 ii, .bool on] (by rfl) rfl rfl (by (try simp only [List.map_toArray, List.map_cons, List.map_nil]); first | done | rfl) ?_
        refine (bits_Set_out gp l ii on w.heap.size _ (HO.out.below (below_drew (Below.refl _ _))) hout).mono ?_
        rintro e w5 ⟨rfl, rfl⟩
        refine ⟨_, rfl, ?_⟩
        refine hK.out _ _ (hHeld) (fun hHeld => ?_)
        clear hK K
        refine norm_ (a' := ?_) ?_ ?_
        rotate_left
        · show Act.put _ (some 39) _ = _
          simp only [Act.put, List.setIfInBounds_toArray, List.set_cons_zero, List.set_cons_succ, i64_w, i32_w]
          rfl
        refine one_ (i := 15) (N := some 45) #[true, true, true, true, true, true, true, true, true, true, true, true, true, true, true, true, false, false] rfl rfl (one_of HT_.out (by kernel_rfl)) (by decide) (fun K hK => ?_)
        refine goes_ Try.func54 (by kernel_rfl) rfl #[.pointer (some ⟨gr, 0, none⟩), .int .i64 ii, .bool on] (by rfl) rfl rfl (by (try simp only [List.map_toArray, List.map_cons, List.map_nil]); first | done | rfl) ?_
        refine (ref_Set_out gr l ii on w.heap.size _ (HJ.out.below (below_drew (Below.refl _ _))) hout).mono ?_
        rintro e w6 ⟨rfl, rfl⟩
        refine ⟨_, rfl, ?_⟩
        refine hK.out _ _ (hHeld) (fun hHeld => ?_)
        clear hK K
        refine norm_ (a' := ?_) ?_ ?_
        rotate_left
        · show Act.put _ (some 45) _ = _
          simp only [Act.put, List.setIfInBounds_toArray, List.set_cons_zero, List.set_cons_succ, i64_w, i32_w]
          rfl
        refine pure_ (i := 16) (N := some 46) (v := ?_) (a' := ?_) #[true, true, true, true, true, true, true, true, true, true, true, true, true, true, true, true, true, false] rfl rfl (any_of HT_.out (by kernel_rfl)) (fun _ _ _ h => h) (Or.inl ⟨by rfl, ?_⟩) ?_ ?_
        rotate_left
        · intro w'
          go_simp; first | done | with_reducible rfl
        rotate_left
        · simp only [Act.put, List.setIfInBounds_toArray, List.set_cons_zero, List.set_cons_succ, i64_w, i32_w]
          rfl
        refine pure_ (i := 17) (N := some 47) (v := ?_) (a' := ?_) #[true, true, true, true, true, true, true, true, true, true, true, true, true, true, true, true, true, true] rfl rfl (any_of HT_.out (by kernel_rfl)) (fun _ _ _ h => h) (Or.inl ⟨by rfl, ?_⟩) ?_ ?_
        rotate_left
        · intro w'
          go_simp; first | done | with_reducible rfl
        rotate_left
        · simp only [Act.put, List.setIfInBounds_toArray, List.set_cons_zero, List.set_cons_succ, i64_w, i32_w]
          rfl
        refine done_ (done_of HT_.out (by kernel_rfl)) ?_
        clear HT_ HW_ hHeld
        obtain ⟨l2, hl2⟩ : ∃ l2, l = l2 := ⟨_, rfl⟩
        rw [hl2] at HO HJ HL HLN
        have HL2 := HL
        have HLN2 := HLN
        have HO2 := Aside0.mk (HO.out.below (below_drew (Below.refl _ _)))
        have HJ2 := Aside0.mk (HJ.out.below (below_drew (Below.refl _ _)))
        have HB2 := Aside0.mk (below_drew HB.out)
        clear hl2 HO HJ HB hout
        have HO := HO2
        have HJ := HJ2
        have HB := HB2
        clear HO2 HJ2 HB2
        go_upto_region 10 with (fail)
        refine start_ (n := 37) (S := fun w' => BRow w' w.heap.size gp l2 ∧ RefRow w' w.heap.size gr l2 ∧ Below w.heap.size w w' ∧ w'.heap[g8]? = some (.cells #[.int .i64 1, .int .i64 ii, .bool on] 58 (0, 0))) (ds := []) #[false, false, false, false, false, false, false, false, false, false, false, false, false, false, false, false, false, false, false, false, false, false, false, false, false, false, false, false, false, false, false, false, false, false, false, false, false] (by kernel_rfl) rfl rfl (And.intro (HO.out.below (below_drew (Below.refl _ _))) (And.intro (HJ.out.below (below_drew (Below.refl _ _))) (And.intro (below_drew HB.out) HK.out))) (fun hHeld => ?_); refine with_tabW play_rt10.tab play_rt10.bits (fun HT_ HW_ => ?_)
        refine pure_ (i := 0) (N := some 48) (v := ?_) (a' := ?_) #[true, false, false, false, false, false, false, false, false, false, false, false, false, false, false, false, false, false, false, false, false, false, false, false, false, false, false, false, false, false, false, false, false, false, false, false, false] rfl rfl (any_of HT_.out (by kernel_rfl)) (fun _ _ _ h => h) (Or.inl ⟨by rfl, ?_⟩) ?_ ?_
        rotate_left
        · intro w'
          go_simp; first | done | with_reducible rfl
        rotate_left
        · simp only [Act.put, List.setIfInBounds_toArray, List.set_cons_zero, List.set_cons_succ, i64_w, i32_w]
          rfl
        refine pure_ (i := 1) (N := some 49) (v := ?_) (a' := ?_) #[true, true, false, false, false, false, false, false, false, false, false, false, false, false, false, false, false, false, false, false, false, false, false, false, false, false, false, false, false, false, false, false, false, false, false, false, false] rfl rfl (any_of HT_.out (by kernel_rfl)) (fun _ _ _ h => h) (Or.inl ⟨by rfl, ?_⟩) ?_ ?_
        rotate_left
        · intro w'
          go_simp; first | done | with_reducible rfl
        rotate_left
        · simp only [Act.put, List.setIfInBounds_toArray, List.set_cons_zero, List.set_cons_succ, i64_w, i32_w]
          rfl
        refine pure_ (i := 4) (N := some 52) (v := ?_) (a' := ?_) #[true, true, false, false, true, false, false, false, false, false, false, false, false, false, false, false, false, false, false, false, false, false, false, false, false, false, false, false, false, false, false, false, false, false, false, false, false] rfl rfl (any_of HT_.out (by kernel_rfl)) (fun _ _ _ h => h) (Or.inl ⟨by rfl, ?_⟩) ?_ ?_
        rotate_left
        · intro w'
          go_simp; first | done | with_reducible rfl
        rotate_left
        · simp only [Act.put, List.setIfInBounds_toArray, List.set_cons_zero, List.set_cons_succ, i64_w, i32_w]
          rfl
        refine pure_ (i := 5) (N := some 53) (v := ?_) (a' := ?_) #[true, true, false, false, true, true, false, false, false, false, false, false, false, false, false, false, false, false, false, false, false, false, false, false, false, false, false, false, false, false, false, false, false, false, false, false, false] rfl rfl (any_of HT_.out (by kernel_rfl)) (fun _ _ _ h => h) (Or.inl ⟨by rfl, ?_⟩) ?_ ?_
        rotate_left
        · intro w'
          go_simp; first | done | with_reducible rfl
        rotate_left
        · simp only [Act.put, List.setIfInBounds_toArray, List.set_cons_zero, List.set_cons_succ, i64_w, i32_w]
          rfl
        refine take_ (i := 2) (N := some 50) (v := ?_) (a' := ?_) #[true, true, true, false, true, true, false, false, false, false, false, false, false, false, false, false, false, false, false, false, false, false, false, false, false, false, false, false, false, false, false, false, false, false, false, false, false] rfl rfl (take_ofW HT_.out HW_.out (by kernel_rfl)) (fun _ _ _ h => h) (Or.inl ⟨by rfl, ?_⟩) hHeld ?_ ?_
        rotate_left
        · intro w' hS'
          have hk0 := (blk_cell hS'.2.2.2 1).trans rfl
          go_simp; first | done | with_reducible rfl
        rotate_left
        · simp only [Act.put, List.setIfInBounds_toArray, List.set_cons_zero, List.set_cons_succ, i64_w, i32_w]
          rfl
        refine take_ (i := 6) (N := some 54) (v := ?_) (a' := ?_) #[true, true, true, false, true, true, true, false, false, false, false, false, false, false, false, false, false, false, false, false, false, false, false, false, false, false, false, false, false, false, false, false, false, false, false, false, false] rfl rfl (take_ofW HT_.out HW_.out (by kernel_rfl)) (fun _ _ _ h => h) (Or.inl ⟨by rfl, ?_⟩) hHeld ?_ ?_
        rotate_left
        · intro w' hS'
          have hk0 := (blk_cell hS'.2.2.2 1).trans rfl
          go_simp; first | done | with_reducible rfl
        rotate_left
        · simp only [Act.put, List.setIfInBounds_toArray, List.set_cons_zero, List.set_cons_succ, i64_w, i32_w]
          rfl
        refine one_ (i := 3) (N := some 51) #[true, true, true, true, true, true, true, false, false, false, false, false, false, false, false, false, false, false, false, false, false, false, false, false, false, false, false, false, false, false, false, false, false, false, false, false, false] rfl rfl (one_of HT_.out (by kernel_rfl)) (by decide) (fun K hK => ?_)
        refine goes_ Try.func44 (by kernel_rfl) rfl #[.pointer (some ⟨gp, 0, none⟩), .int .i64 ii] (by rfl) rfl rfl (by (try simp only [List.map_toArray, List.map_cons, List.map_nil]); first | done | rfl) ?_
        refine (bits_Get_calls gp l2 ii w.heap.size _ hHeld.1 HL2.out).mono ?_
        rintro e w5 ⟨rfl, rfl⟩
        refine ⟨_, rfl, ?_⟩
        refine hK.out _ _ (hHeld) (fun hHeld => ?_)
        clear hK K
        refine norm_ (a' := ?_) ?_ ?_
        rotate_left
        · show Act.put _ (some 51) _ = _
          simp only [Act.put, List.setIfInBounds_toArray, List.set_cons_zero, List.set_cons_succ, i64_w, i32_w]
          rfl
        refine one_ (i := 7) (N := some 55) #[true, true, true, true, true, true, true, true, false, false, false, false, false, false, false, false, false, false, false, false, false, false, false, false, false, false, false, false, false, false, false, false, false, false, false, false, false] rfl rfl (one_of HT_.out (by kernel_rfl)) (by decide) (fun K hK => ?_)
        refine goes_ Try.func55 (by kernel_rfl) rfl #[.pointer (some ⟨gr, 0, none⟩), .int .i64 ii] (by rfl) rfl rfl (by (try simp only [List.map_toArray, List.map_cons, List.map_nil]); first | done | rfl) ?_
        refine (ref_Get_calls gr l2 ii w.heap.size _ hHeld.2.1).mono ?_
        rintro e w6 ⟨rfl, rfl⟩
        refine ⟨_, rfl, ?_⟩
        refine hK.out _ _ (hHeld) (fun hHeld => ?_)
        clear hK K
        refine norm_ (a' := ?_) ?_ ?_
        rotate_left
        · show Act.put _ (some 55) _ = _
          simp only [Act.put, List.setIfInBounds_toArray, List.set_cons_zero, List.set_cons_succ, i64_w, i32_w]
          rfl
        refine pure_ (i := 8) (N := some 56) (v := ?_) (a' := ?_) #[true, true, true, true, true, true, true, true, true, false, false, false, false, false, false, false, false, false, false, false, false, false, false, false, false, false, false, false, false, false, false, false, false, false, false, false, false] rfl rfl (any_of HT_.out (by kernel_rfl)) (fun _ _ _ h => h) (Or.inl ⟨by rfl, ?_⟩) ?_ ?_
        rotate_left
        · intro w'
          go_simp; first | done | with_reducible rfl
        rotate_left
        · simp only [Act.put, List.setIfInBounds_toArray, List.set_cons_zero, List.set_cons_succ, i64_w, i32_w]
          rfl
        refine pure_ (i := 9) (N := some 57) (v := ?_) (a' := ?_) #[true, true, true, true, true, true, true, true, true, true, false, false, false, false, false, false, false, false, false, false, false, false, false, false, false, false, false, false, false, false, false, false, false, false, false, false, false] rfl rfl (any_of HT_.out (by kernel_rfl)) (fun _ _ _ h => h) (Or.inl ⟨by rfl, ?_⟩) ?_ ?_
        rotate_left
        · intro w'
          go_simp; first | done | with_reducible rfl
        rotate_left
        · simp only [Act.put, List.setIfInBounds_toArray, List.set_cons_zero, List.set_cons_succ, i64_w, i32_w]
          rfl
        refine pure_ (i := 10) (N := some 58) (v := ?_) (a' := ?_) #[true, true, true, true, true, true, true, true, true, true, true, false, false, false, false, false, false, false, false, false, false, false, false, false, false, false, false, false, false, false, false, false, false, false, false, false, false] rfl rfl (any_of HT_.out (by kernel_rfl)) (fun _ _ _ h => h) (Or.inl ⟨by rfl, ?_⟩) ?_ ?_
        rotate_left
        · intro w'
          go_simp; first | done | with_reducible rfl
        rotate_left
        · simp only [Act.put, List.setIfInBounds_toArray, List.set_cons_zero, List.set_cons_succ, i64_w, i32_w]
          rfl
        refine pure_ (i := 11) (N := some 59) (v := ?_) (a' := ?_) #[true, true, true, true, true, true, true, true, true, true, true, true, false, false, false, false, false, false, false, false, false, false, false, false, false, false, false, false, false, false, false, false, false, false, false, false, false] rfl rfl (any_of HT_.out (by kernel_rfl)) (fun _ _ _ h => h) (Or.inl ⟨by rfl, ?_⟩) ?_ ?_
        rotate_left
        · intro w'
          go_simp; first | done | with_reducible rfl
        rotate_left
        · simp only [Act.put, List.setIfInBounds_toArray, List.set_cons_zero, List.set_cons_succ, i64_w, i32_w]
          rfl
        refine pure_ (i := 14) (N := some 62) (v := ?_) (a' := ?_) #[true, true, true, true, true, true, true, true, true, true, true, true, false, false, true, false, false, false, false, false, false, false, false, false, false, false, false, false, false, false, false, false, false, false, false, false, false] rfl rfl (any_of HT_.out (by kernel_rfl)) (fun _ _ _ h => h) (Or.inl ⟨by rfl, ?_⟩) ?_ ?_
        rotate_left
        · intro w'
          go_simp; first | done | with_reducible rfl
        rotate_left
        · simp only [Act.put, List.setIfInBounds_toArray, List.set_cons_zero, List.set_cons_succ, i64_w, i32_w]
          rfl
        refine pure_ (i := 15) (N := some 63) (v := ?_) (a' := ?_) #[true, true, true, true, true, true, true, true, true, true, true, true, false, false, true, true, false, false, false, false, false, false, false, false, false, false, false, false, false, false, false, false, false, false, false, false, false] rfl rfl (any_of HT_.out (by kernel_rfl)) (fun _ _ _ h => h) (Or.inl ⟨by rfl, ?_⟩) ?_ ?_
        rotate_left
        · intro w'
          go_simp; first | done | with_reducible rfl
        rotate_left
        · simp only [Act.put, List.setIfInBounds_toArray, List.set_cons_zero, List.set_cons_succ, i64_w, i32_w]
          rfl
        refine take_ (i := 12) (N := some 60) (v := ?_) (a' := ?_) #[true, true, true, true, true, true, true, true, true, true, true, true, true, false, true, true, false, false, false, false, false, false, false, false, false, false, false, false, false, false, false, false, false, false, false, false, false] rfl rfl (take_ofW HT_.out HW_.out (by kernel_rfl)) (fun _ _ _ h => h) (Or.inl ⟨by rfl, ?_⟩) hHeld ?_ ?_
        rotate_left
        · intro w' hS'
          have hk0 := (blk_cell hS'.2.2.2 1).trans rfl
          go_simp; first | done | with_reducible rfl
        rotate_left
        · simp only [Act.put, List.setIfInBounds_toArray, List.set_cons_zero, List.set_cons_succ, i64_w, i32_w]
          rfl
        refine take_ (i := 16) (N := some 64) (v := ?_) (a' := ?_) #[true, true, true, true, true, true, true, true, true, true, true, true, true, false, true, true, true, false, false, false, false, false, false, false, false, false, false, false, false, false, false, false, false, false, false, false, false] rfl rfl (take_ofW HT_.out HW_.out (by kernel_rfl)) (fun _ _ _ h => h) (Or.inl ⟨by rfl, ?_⟩) hHeld ?_ ?_
        rotate_left
        · intro w' hS'
          have hk0 := (blk_cell hS'.2.2.2 1).trans rfl
          go_simp; first | done | with_reducible rfl
        rotate_left
        · simp only [Act.put, List.setIfInBounds_toArray, List.set_cons_zero, List.set_cons_succ, i64_w, i32_w]
          rfl
        refine one_ (i := 13) (N := some 61) #[true, true, true, true, true, true, true, true, true, true, true, true, true, true, true, true, true, false, false, false, false, false, false, false, false, false, false, false, false, false, false, false, false, false, false, false, false] rfl rfl (one_of HT_.out (by kernel_rfl)) (by decide) (fun K hK => ?_)
        refine goes_ Try.func48 (by kernel_rfl) rfl #[.pointer (some ⟨gp, 0, none⟩), .int .i64 ii] (by rfl) rfl rfl (by (try simp only [List.map_toArray, List.map_cons, List.map_nil]); first | done | rfl) ?_
        refine (bits_First_calls gp l2 ii w.heap.size _ hHeld.1 HL2.out).mono ?_
        rintro e w7 ⟨rfl, rfl⟩
        refine ⟨_, rfl, ?_⟩
        refine hK.out _ _ (hHeld) (fun hHeld => ?_)
        clear hK K
        refine norm_ (a' := ?_) ?_ ?_
        rotate_left
        · show Act.put _ (some 61) _ = _
          simp only [Act.put, List.setIfInBounds_toArray, List.set_cons_zero, List.set_cons_succ, i64_w, i32_w]
          rfl
        refine one_ (i := 17) (N := some 65) #[true, true, true, true, true, true, true, true, true, true, true, true, true, true, true, true, true, true, false, false, false, false, false, false, false, false, false, false, false, false, false, false, false, false, false, false, false] rfl rfl (one_of HT_.out (by kernel_rfl)) (by decide) (fun K hK => ?_)
        refine goes_ Try.func49 (by kernel_rfl) rfl #[.pointer (some ⟨gr, 0, none⟩), .int .i64 ii] (by rfl) rfl rfl (by (try simp only [List.map_toArray, List.map_cons, List.map_nil]); first | done | rfl) ?_
        refine (ref_First_calls gr l2 ii w.heap.size _ hHeld.2.1 HL2.out).mono ?_
        rintro e w8 ⟨rfl, rfl⟩
        refine ⟨_, rfl, ?_⟩
        refine hK.out _ _ (hHeld) (fun hHeld => ?_)
        clear hK K
        refine norm_ (a' := ?_) ?_ ?_
        rotate_left
        · show Act.put _ (some 65) _ = _
          simp only [Act.put, List.setIfInBounds_toArray, List.set_cons_zero, List.set_cons_succ, i64_w, i32_w]
          rfl
        refine pure_ (i := 18) (N := some 66) (v := ?_) (a' := ?_) #[true, true, true, true, true, true, true, true, true, true, true, true, true, true, true, true, true, true, true, false, false, false, false, false, false, false, false, false, false, false, false, false, false, false, false, false, false] rfl rfl (any_of HT_.out (by kernel_rfl)) (fun _ _ _ h => h) (Or.inl ⟨by rfl, ?_⟩) ?_ ?_
        rotate_left
        · intro w'
          go_simp; first | done | with_reducible rfl
        rotate_left
        · simp only [Act.put, List.setIfInBounds_toArray, List.set_cons_zero, List.set_cons_succ, i64_w, i32_w]
          rfl
        refine pure_ (i := 19) (N := some 67) (v := ?_) (a' := ?_) #[true, true, true, true, true, true, true, true, true, true, true, true, true, true, true, true, true, true, true, true, false, false, false, false, false, false, false, false, false, false, false, false, false, false, false, false, false] rfl rfl (any_of HT_.out (by kernel_rfl)) (fun _ _ _ h => h) (Or.inl ⟨by rfl, ?_⟩) ?_ ?_
        rotate_left
        · intro w'
          go_simp; first | done | with_reducible rfl
        rotate_left
        · simp only [Act.put, List.setIfInBounds_toArray, List.set_cons_zero, List.set_cons_succ, i64_w, i32_w]
          rfl
        refine pure_ (i := 20) (N := some 68) (v := ?_) (a' := ?_) #[true, true, true, true, true, true, true, true, true, true, true, true, true, true, true, true, true, true, true, true, true, false, false, false, false, false, false, false, false, false, false, false, false, false, false, false, false] rfl rfl (any_of HT_.out (by kernel_rfl)) (fun _ _ _ h => h) (Or.inl ⟨by rfl, ?_⟩) ?_ ?_
        rotate_left
        · intro w'
          go_simp; first | done | with_reducible rfl
        rotate_left
        · simp only [Act.put, List.setIfInBounds_toArray, List.set_cons_zero, List.set_cons_succ, i64_w, i32_w]
          rfl
        refine pure_ (i := 21) (N := some 69) (v := ?_) (a' := ?_) #[true, true, true, true, true, true, true, true, true, true, true, true, true, true, true, true, true, true, true, true, true, true, false, false, false, false, false, false, false, false, false, false, false, false, false, false, false] rfl rfl (any_of HT_.out (by kernel_rfl)) (fun _ _ _ h => h) (Or.inl ⟨by rfl, ?_⟩) ?_ ?_
        rotate_left
        · intro w'
          go_simp; first | done | with_reducible rfl
        rotate_left
        · simp only [Act.put, List.setIfInBounds_toArray, List.set_cons_zero, List.set_cons_succ, i64_w, i32_w]
          rfl
        refine pure_ (i := 22) (N := some 70) (v := ?_) (a' := ?_) #[true, true, true, true, true, true, true, true, true, true, true, true, true, true, true, true, true, true, true, true, true, true, true, false, false, false, false, false, false, false, false, false, false, false, false, false, false] rfl rfl (any_of HT_.out (by kernel_rfl)) (fun _ _ _ h => h) (Or.inl ⟨by rfl, ?_⟩) ?_ ?_
        rotate_left
        · intro w'
          go_simp; first | done | with_reducible rfl
        rotate_left
        · simp only [Act.put, List.setIfInBounds_toArray, List.set_cons_zero, List.set_cons_succ, i64_w, i32_w]
          rfl
        refine pure_ (i := 25) (N := some 73) (v := ?_) (a' := ?_) #[true, true, true, true, true, true, true, true, true, true, true, true, true, true, true, true, true, true, true, true, true, true, true, false, false, true, false, false, false, false, false, false, false, false, false, false, false] rfl rfl (any_of HT_.out (by kernel_rfl)) (fun _ _ _ h => h) (Or.inl ⟨by rfl, ?_⟩) ?_ ?_
        rotate_left
        · intro w'
          go_simp; first | done | with_reducible rfl
        rotate_left
        · simp only [Act.put, List.setIfInBounds_toArray, List.set_cons_zero, List.set_cons_succ, i64_w, i32_w]
          rfl
        refine pure_ (i := 26) (N := some 74) (v := ?_) (a' := ?_) #[true, true, true, true, true, true, true, true, true, true, true, true, true, true, true, true, true, true, true, true, true, true, true, false, false, true, true, false, false, false, false, false, false, false, false, false, false] rfl rfl (any_of HT_.out (by kernel_rfl)) (fun _ _ _ h => h) (Or.inl ⟨by rfl, ?_⟩) ?_ ?_
        rotate_left
        · intro w'
          go_simp; first | done | with_reducible rfl
        rotate_left
        · simp only [Act.put, List.setIfInBounds_toArray, List.set_cons_zero, List.set_cons_succ, i64_w, i32_w]
          rfl
        refine take_ (i := 23) (N := some 71) (v := ?_) (a' := ?_) #[true, true, true, true, true, true, true, true, true, true, true, true, true, true, true, true, true, true, true, true, true, true, true, true, false, true, true, false, false, false, false, false, false, false, false, false, false] rfl rfl (take_ofW HT_.out HW_.out (by kernel_rfl)) (fun _ _ _ h => h) (Or.inl ⟨by rfl, ?_⟩) hHeld ?_ ?_
        rotate_left
        · intro w' hS'
          have hk0 := (blk_cell hS'.2.2.2 1).trans rfl
          go_simp; first | done | with_reducible rfl
        rotate_left
        · simp only [Act.put, List.setIfInBounds_toArray, List.set_cons_zero, List.set_cons_succ, i64_w, i32_w]
          rfl
        refine take_ (i := 27) (N := some 75) (v := ?_) (a' := ?_) #[true, true, true, true, true, true, true, true, true, true, true, true, true, true, true, true, true, true, true, true, true, true, true, true, false, true, true, true, false, false, false, false, false, false, false, false, false] rfl rfl (take_ofW HT_.out HW_.out (by kernel_rfl)) (fun _ _ _ h => h) (Or.inl ⟨by rfl, ?_⟩) hHeld ?_ ?_
        rotate_left
        · intro w' hS'
          have hk0 := (blk_cell hS'.2.2.2 1).trans rfl
          go_simp; first | done | with_reducible rfl
        rotate_left
        · simp only [Act.put, List.setIfInBounds_toArray, List.set_cons_zero, List.set_cons_succ, i64_w, i32_w]
          rfl
        refine one_ (i := 24) (N := some 72) #[true, true, true, true, true, true, true, true, true, true, true, true, true, true, true, true, true, true, true, true, true, true, true, true, true, true, true, true, false, false, false, false, false, false, false, false, false] rfl rfl (one_of HT_.out (by kernel_rfl)) (by decide) (fun K hK => ?_)
        refine goes_ Try.func42 (by kernel_rfl) rfl #[.pointer (some ⟨gp, 0, none⟩), .int .i64 ii] (by rfl) rfl rfl (by (try simp only [List.map_toArray, List.map_cons, List.map_nil]); first | done | rfl) ?_
        refine (bits_Run_calls gp l2 ii w.heap.size _ hHeld.1 HL2.out HII.out).mono ?_
        rintro e w9 ⟨rfl, rfl⟩
        refine ⟨_, rfl, ?_⟩
        refine hK.out _ _ (hHeld) (fun hHeld => ?_)
        clear hK K
        refine norm_ (a' := ?_) ?_ ?_
        rotate_left
        · show Act.put _ (some 72) _ = _
          simp only [Act.put, List.setIfInBounds_toArray, List.set_cons_zero, List.set_cons_succ, i64_w, i32_w]
          rfl
        refine one_ (i := 28) (N := some 76) #[true, true, true, true, true, true, true, true, true, true, true, true, true, true, true, true, true, true, true, true, true, true, true, true, true, true, true, true, true, false, false, false, false, false, false, false, false] rfl rfl (one_of HT_.out (by kernel_rfl)) (by decide) (fun K hK => ?_)
        refine goes_ Try.func50 (by kernel_rfl) rfl #[.pointer (some ⟨gr, 0, none⟩), .int .i64 ii] (by rfl) rfl rfl (by (try simp only [List.map_toArray, List.map_cons, List.map_nil]); first | done | rfl) ?_
        refine (ref_Run_calls gr l2 ii w.heap.size _ hHeld.2.1 HL2.out).mono ?_
        rintro e w10 ⟨rfl, rfl⟩
        refine ⟨_, rfl, ?_⟩
        refine hK.out _ _ (hHeld) (fun hHeld => ?_)
        clear hK K
        refine norm_ (a' := ?_) ?_ ?_
        rotate_left
        · show Act.put _ (some 76) _ = _
          simp only [Act.put, List.setIfInBounds_toArray, List.set_cons_zero, List.set_cons_succ, i64_w, i32_w]
          rfl
        refine pure_ (i := 29) (N := some 77) (v := ?_) (a' := ?_) #[true, true, true, true, true, true, true, true, true, true, true, true, true, true, true, true, true, true, true, true, true, true, true, true, true, true, true, true, true, true, false, false, false, false, false, false, false] rfl rfl (any_of HT_.out (by kernel_rfl)) (fun _ _ _ h => h) (Or.inl ⟨by rfl, ?_⟩) ?_ ?_
        rotate_left
        · intro w'
          go_simp; first | done | with_reducible rfl
        rotate_left
        · simp only [Act.put, List.setIfInBounds_toArray, List.set_cons_zero, List.set_cons_succ, i64_w, i32_w]
          rfl
        refine pure_ (i := 30) (N := some 78) (v := ?_) (a' := ?_) #[true, true, true, true, true, true, true, true, true, true, true, true, true, true, true, true, true, true, true, true, true, true, true, true, true, true, true, true, true, true, true, false, false, false, false, false, false] rfl rfl (any_of HT_.out (by kernel_rfl)) (fun _ _ _ h => h) (Or.inl ⟨by rfl, ?_⟩) ?_ ?_
        rotate_left
        · intro w'
          go_simp; first | done | with_reducible rfl
        rotate_left
        · simp only [Act.put, List.setIfInBounds_toArray, List.set_cons_zero, List.set_cons_succ, i64_w, i32_w]
          rfl
        refine pure_ (i := 31) (N := some 79) (v := ?_) (a' := ?_) #[true, true, true, true, true, true, true, true, true, true, true, true, true, true, true, true, true, true, true, true, true, true, true, true, true, true, true, true, true, true, true, true, false, false, false, false, false] rfl rfl (any_of HT_.out (by kernel_rfl)) (fun _ _ _ h => h) (Or.inl ⟨by rfl, ?_⟩) ?_ ?_
        rotate_left
        · intro w'
          go_simp; first | done | with_reducible rfl
        rotate_left
        · simp only [Act.put, List.setIfInBounds_toArray, List.set_cons_zero, List.set_cons_succ, i64_w, i32_w]
          rfl
        refine pure_ (i := 32) (N := some 80) (v := ?_) (a' := ?_) #[true, true, true, true, true, true, true, true, true, true, true, true, true, true, true, true, true, true, true, true, true, true, true, true, true, true, true, true, true, true, true, true, true, false, false, false, false] rfl rfl (any_of HT_.out (by kernel_rfl)) (fun _ _ _ h => h) (Or.inl ⟨by rfl, ?_⟩) ?_ ?_
        rotate_left
        · intro w'
          go_simp; first | done | with_reducible rfl
        rotate_left
        · simp only [Act.put, List.setIfInBounds_toArray, List.set_cons_zero, List.set_cons_succ, i64_w, i32_w]
          rfl
        refine pure_ (i := 33) (N := some 81) (v := ?_) (a' := ?_) #[true, true, true, true, true, true, true, true, true, true, true, true, true, true, true, true, true, true, true, true, true, true, true, true, true, true, true, true, true, true, true, true, true, true, false, false, false] rfl rfl (any_of HT_.out (by kernel_rfl)) (fun _ _ _ h => h) (Or.inl ⟨by rfl, ?_⟩) ?_ ?_
        rotate_left
        · intro w'
          go_simp; first | done | with_reducible rfl
        rotate_left
        · simp only [Act.put, List.setIfInBounds_toArray, List.set_cons_zero, List.set_cons_succ, i64_w, i32_w]
          rfl
        refine one_ (i := 34) (N := some 82) #[true, true, true, true, true, true, true, true, true, true, true, true, true, true, true, true, true, true, true, true, true, true, true, true, true, true, true, true, true, true, true, true, true, true, true, false, false] rfl rfl (one_of HT_.out (by kernel_rfl)) (by decide) (fun K hK => ?_)
        refine goes_ Try.func46 (by kernel_rfl) rfl #[.pointer (some ⟨gp, 0, none⟩), .pointer (some ⟨gr, 0, none⟩)] (by rfl) rfl rfl (by (try simp only [List.map_toArray, List.map_cons, List.map_nil]); first | done | rfl) ?_
        refine (same_calls gp gr l2 w.heap.size w.heap.size _ hHeld.1 hHeld.2.1 HL2.out).mono ?_
        rintro e w11 ⟨rfl, hb⟩
        refine ⟨_, rfl, ?_⟩
        have hHeld := And.intro (hHeld.1.below hb) (And.intro (hHeld.2.1.below hb) (And.intro (below_step hHeld.2.2.1 hb) (blk_below hHeld.2.2.2 hb)))
        clear hb
        refine hK.out _ _ (hHeld) (fun hHeld => ?_)
        clear hK K
        refine norm_ (a' := ?_) ?_ ?_
        rotate_left
        · show Act.put _ (some 82) _ = _
          simp only [Act.put, List.setIfInBounds_toArray, List.set_cons_zero, List.set_cons_succ, i64_w, i32_w]
          rfl
        refine pure_ (i := 35) (N := some 83) (v := ?_) (a' := ?_) #[true, true, true, true, true, true, true, true, true, true, true, true, true, true, true, true, true, true, true, true, true, true, true, true, true, true, true, true, true, true, true, true, true, true, true, true, false] rfl rfl (any_of HT_.out (by kernel_rfl)) (fun _ _ _ h => h) (Or.inl ⟨by rfl, ?_⟩) ?_ ?_
        rotate_left
        · intro w'
          go_simp; first | done | with_reducible rfl
        rotate_left
        · simp only [Act.put, List.setIfInBounds_toArray, List.set_cons_zero, List.set_cons_succ, i64_w, i32_w]
          rfl
        refine pure_ (i := 36) (N := some 84) (v := ?_) (a' := ?_) #[true, true, true, true, true, true, true, true, true, true, true, true, true, true, true, true, true, true, true, true, true, true, true, true, true, true, true, true, true, true, true, true, true, true, true, true, true] rfl rfl (any_of HT_.out (by kernel_rfl)) (fun _ _ _ h => h) (Or.inl ⟨by rfl, ?_⟩) ?_ ?_
        rotate_left
        · intro w'
          go_simp; first | done | with_reducible rfl
        rotate_left
        · simp only [Act.put, List.setIfInBounds_toArray, List.set_cons_zero, List.set_cons_succ, i64_w, i32_w]
          rfl
        refine done_ (done_of HT_.out (by kernel_rfl)) ?_
        have HO9 := Aside0.mk hHeld.1
        have HJ9 := Aside0.mk hHeld.2.1
        have HB9 := Aside0.mk hHeld.2.2.1
        clear HT_ HW_ hHeld HO HJ HB HK
        go_wp2
        go_roundw
        case rel => exact ⟨k + 1, by omega, by go_num, ⟨l2, HLN2.out, HO9.out, HJ9.out, HB9.out⟩⟩
        case measure => simp [intOf]; omega
    · obtain rfl : k = len := by omega
      go_wp2_with (go_at_call 46; go_must (refine (same_calls gp gr l w.heap.size w.heap.size _ HO.out HJ.out HL.out).mono ?_); rintro e w5 ⟨rfl, hb⟩; have HB5 := Aside0.mk (below_step HB.out hb); clear hb)
      go_ret
      exact ⟨rfl, HB5.out⟩
def ashlarlaw01_BitsPlay.Pure : Prop := True
theorem ashlarlaw01_BitsPlay.walk (n : Int) (A0 : Option Addr) (len c0 : Nat) (w : World) (hs : Script w A0 len) : Calls Try.prog 10 #[.int .i64 n, .slice A0 len c0] w fun e w' => e = .returned (.bool true) ∧ Below w.heap.size w w' := by
  by_cases h : 200 < len
  · exact ashlarlaw01_BitsPlay.long A0 n len c0 w h
  · exact ashlarlaw01_BitsPlay.short A0 n len c0 w (by omega) hs


end Go.Proofs.Ytpcdfmfmakahkaa.PBitsPlay
