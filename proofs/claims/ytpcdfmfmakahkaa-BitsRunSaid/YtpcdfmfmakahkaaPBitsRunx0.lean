/- Written by a program of this session (xprint.py) out of the translation. What is proved, in the end: the Go law BitsRun answers true at every input, and its arguments read behind the call as before; no condition. -/
import Derived.Test.YtpcdfmfmakahkaaProg
import Derived.Below
import Derived.Deep.Draws
import Derived.Deep.AppendLies
import Derived.Maps.AppendAt
import Derived.OwnWalk
import Derived.Laws.BytesArg
import Derived.Laws.MakeOwn
import Derived.Laws.OwnMore
import Derived.Deep.OwnRows
import Derived.Tactics
import Derived.Lib.ConvBytes
import Derived.Laws.Slices
import Derived.WalkKit
import Derived.KernelRfl
import Derived.RowKit3
import Derived.Deep.LoopGhost
import Derived.Deep.QuietTactic
import Derived.BigQuiet
import Derived.WideLaws
import Derived.Deep.DeepCutAuto
import Derived.Deep.CutBlock
import Derived.Deep.RegionHeld3
import Derived.Laws.Rows
import Derived.Lib.AppendStr
import Derived.ArgAppend
import Derived.Laws.IdiomCopy
import Derived.OrdersHeld
import Derived.Laws.BitsLemmas
import Derived.RowKit
import Derived.WalkSpells
import Derived.Test.YtpcdfmfmakahkaaWWords
import Derived.Test.YtpcdfmfmakahkaaWLast
import Derived.Test.YtpcdfmfmakahkaaWTab
import Derived.Test.YtpcdfmfmakahkaaWFour
import Derived.Test.YtpcdfmfmakahkaaWQPut
import Derived.Test.YtpcdfmfmakahkaaWApart
import Derived.Test.YtpcdfmfmakahkaaWArr
import Derived.Test.YtpcdfmfmakahkaaWZeros
import Derived.Test.YtpcdfmfmakahkaaWFoot
import Derived.Test.YtpcdfmfmakahkaaWKept
import Derived.Test.YtpcdfmfmakahkaaWShare
import Derived.Test.YtpcdfmfmakahkaaWN
import Derived.Test.YtpcdfmfmakahkaaWFootNe
import Derived.Test.YtpcdfmfmakahkaaWAt
import Derived.Test.YtpcdfmfmakahkaaWEqStruct
import Derived.Test.YtpcdfmfmakahkaaWRepsOne
import Derived.Test.YtpcdfmfmakahkaaWInv
import Derived.Test.YtpcdfmfmakahkaaWInvWords
import Derived.Test.YtpcdfmfmakahkaaWGuard
import Derived.Test.YtpcdfmfmakahkaaWNEv
import Derived.Test.YtpcdfmfmakahkaaWMore
namespace Go.Proofs.Ytpcdfmfmakahkaa.PBitsRun
open Go.RowKit Go.Proofs.YtpcdfmfmakahkaaW.PrintWords Go.Proofs.YtpcdfmfmakahkaaW.PrintLast Go.Proofs.YtpcdfmfmakahkaaW.PrintMore
attribute [local go_sem] max2_int min2_int max_two min_two max_three min_three max_four min_four   -- for this text's walks alone
set_option linter.unusedVariables false
set_option linter.unusedSimpArgs false



def errW : Option Int → Value
  | none => .nilIface
  | some c => .iface 0 (.int .i64 c)
theorem errW_none : errW none = .nilIface := rfl
theorem errW_some (c : Int) : errW (some c) = .iface 0 (.int .i64 c) := rfl

-- the values' own types
def rd_L2 (xs : List (List Int)) (i : Int) : (List Int) := xs.getD i.toNat ([] : List Int)
theorem at_L2 {w : World} {A : Option Addr} {n : Nat} {xs : List (List Int)} (h : Kd.C (Kd.slice 5 (Kd.int .u8)) w A n xs) (i : Int) (h0 : 0 ≤ i) (h1 : i < n) : ∃ ad A0 c0, A = some ad ∧ w.cell? (ad.add i.toNat) = some (.slice A0 (rd_L2 xs i).length c0) ∧ (rd_L2 xs i).length ≤ c0 ∧ (Kd.int .u8).C w A0 (rd_L2 xs i).length (rd_L2 xs i) := by
  obtain ⟨ad, c, e, _, hK, hc0⟩ := Kd.C_get h ([] : List Int) i h0 h1
  have hc : ∀ j u, c[j]? = some u → w.cell? (ad.add (i.toNat * 1 + j)) = some u := hc0
  obtain ⟨A0, c0, rfl, l0, g0⟩ := hK
  exact ⟨ad, A0, c0, e, by have hq := hc 0 _ rfl; rwa [Nat.mul_one, Nat.add_zero] at hq, l0, g0⟩

/-! #### struct type 64 -/
structure S64 where
  f0 : Int
  f1 : (List Int)
def z64 : S64 := ⟨(0 : Int), ([] : List Int)⟩
def k64 : Kd S64 := Kd.iso (Kd.pair (Kd.int .i64) (Kd.slice 5 (Kd.int .u8))) (fun x : S64 => (x.f0, x.f1))
theorem k64_open {w : World} {x : S64} {cs : List Value} (h : k64.K w x cs) : ∃ A1 c1, cs = [.int .i64 x.f0, .slice A1 x.f1.length c1] ∧ x.f1.length ≤ c1 ∧ (Kd.int .u8).C w A1 x.f1.length x.f1 := by
  obtain ⟨_, _, rfl, rfl, ⟨A1, c1, rfl, l1, g1⟩⟩ := h
  exact ⟨A1, c1, rfl, l1, g1⟩
theorem k64_openM {w : World} {base : Nat} {ok : Nat → Prop} {x : S64} {cs : List Value} (h : k64.M w base ok x cs) : ∃ v1, cs = [.int .i64 x.f0, v1] ∧ (Kd.int .u8).R 5 w base ok v1 x.f1 := by
  obtain ⟨_, _, rfl, rfl, ⟨v1, rfl, g1⟩⟩ := h
  exact ⟨v1, rfl, g1⟩
theorem k64_mk (w : World) (x : S64) {A1 : Option Addr} {c1 : Nat} (l1 : x.f1.length ≤ c1) (g1 : (Kd.int .u8).C w A1 x.f1.length x.f1) : k64.K w x [.int .i64 x.f0, .slice A1 x.f1.length c1] := ⟨[.int .i64 x.f0], [.slice A1 x.f1.length c1], rfl, rfl, ⟨A1, c1, rfl, l1, g1⟩⟩
theorem k64_mkM (w : World) (base : Nat) (ok : Nat → Prop) (x : S64) {v1 : Value} (g1 : (Kd.int .u8).R 5 w base ok v1 x.f1) : k64.M w base ok x [.int .i64 x.f0, v1] := ⟨[.int .i64 x.f0], [v1], rfl, rfl, ⟨v1, rfl, g1⟩⟩
def rd_T64 (xs : List S64) (i : Int) : S64 := xs.getD i.toNat z64
theorem at_T64 {w : World} {A : Option Addr} {n : Nat} {xs : List S64} (h : Kd.C k64 w A n xs) (i : Int) (h0 : 0 ≤ i) (h1 : i < n) : ∃ ad A1 c1, A = some ad ∧ w.cell? (ad.add (i.toNat * 2)) = some (.int .i64 (rd_T64 xs i).f0) ∧ w.cell? ⟨(ad.add (i.toNat * 2)).block, (ad.add (i.toNat * 2)).off + 1, none⟩ = some (.slice A1 (rd_T64 xs i).f1.length c1) ∧ (rd_T64 xs i).f1.length ≤ c1 ∧ (Kd.int .u8).C w A1 (rd_T64 xs i).f1.length (rd_T64 xs i).f1 := by
  obtain ⟨ad, c, e, _, hK, hc0⟩ := Kd.C_get h z64 i h0 h1
  have hc : ∀ j u, c[j]? = some u → w.cell? (ad.add (i.toNat * 2 + j)) = some u := hc0
  obtain ⟨A1, c1, rfl, l1, g1⟩ := k64_open hK
  exact ⟨ad, A1, c1, e, hc 0 _ rfl, by rw [← add_field _ _ 1 (by omega)]; exact hc 1 _ rfl, l1, g1⟩

end Go.Proofs.Ytpcdfmfmakahkaa.PBitsRun
