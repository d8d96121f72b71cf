-- Text written by a program of this session (wip/tools).
import Derived.Test.YtmibdlapjddfoaaProg
import Derived.Below
import Derived.Deep.Draws
import Derived.Deep.AppendLies
import Derived.Maps.AppendAt
import Derived.OwnWalk
import Derived.Laws.BytesArg
import Derived.Laws.MakeOwn
import Derived.Laws.OwnMore
import Derived.Deep.OwnRows
import Derived.Tactics
import Derived.Lib.ConvBytes
import Derived.Laws.Slices
import Derived.WalkKit
import Derived.KernelRfl
import Derived.RowKit3
import Derived.Deep.LoopGhost
import Derived.Deep.QuietTactic
import Derived.BigQuiet
import Derived.WideLaws
import Derived.Deep.DeepCutAuto
import Derived.Deep.CutBlock
import Derived.Deep.RegionHeld3
import Derived.Laws.Rows
import Derived.Lib.AppendStr
import Derived.ArgAppend
import Derived.Laws.IdiomCopy
import Derived.OrdersHeld
import Derived.Laws.BitsLemmas
import Derived.RowKit
import Derived.Test.YtmibdlapjddfoaaBase
import Derived.Test.YtmibdlapjddfoaaBv
import Derived.Test.YtmibdlapjddfoaaEqArr
import Derived.LoopN
import Derived.Test.YtmibdlapjddfoaaWWords
import Derived.Test.YtmibdlapjddfoaaWLast
import Derived.Test.YtmibdlapjddfoaaWTab
import Derived.Test.YtmibdlapjddfoaaWFour
import Derived.Test.YtmibdlapjddfoaaWQPut
import Derived.Test.YtmibdlapjddfoaaWApart
import Derived.Test.YtmibdlapjddfoaaWArr
import Derived.Test.YtmibdlapjddfoaaWZeros
import Derived.Test.YtmibdlapjddfoaaWFoot
import Derived.Test.YtmibdlapjddfoaaWKept
import Derived.Test.YtmibdlapjddfoaaWShare
import Derived.Test.YtmibdlapjddfoaaWN
import Derived.Test.YtmibdlapjddfoaaWFootNe
import Derived.Test.YtmibdlapjddfoaaWAt
import Derived.Test.YtmibdlapjddfoaaWEqStruct
import Derived.Test.YtmibdlapjddfoaaWRepsOne
import Derived.Test.YtmibdlapjddfoaaWInv
import Derived.Test.YtmibdlapjddfoaaWInvWords
import Derived.Test.YtmibdlapjddfoaaWGuard
import Derived.Test.YtmibdlapjddfoaaWNEv
import Derived.Test.YtmibdlapjddfoaaWMore
namespace Go.Proofs.Ytmibdlapjddfoaa.QXtea
open Go.RowKit Go.Proofs.YtmibdlapjddfoaaW.PrintWords Go.Proofs.YtmibdlapjddfoaaW.PrintLast Go.Proofs.YtmibdlapjddfoaaW.PrintMore
attribute [local go_sem] max2_int min2_int max_two min_two max_three min_three max_four min_four   -- for this text's walks alone
set_option linter.unusedVariables false
set_option linter.unusedSimpArgs false



def errW : Option Int → Value
  | none => .nilIface
  | some c => .iface 0 (.int .i64 c)
theorem errW_none : errW none = .nilIface := rfl
theorem errW_some (c : Int) : errW (some c) = .iface 0 (.int .i64 c) := rfl

theorem info5 : (Try.prog.info? 5).map (fun i => (i.zero, i.size, i.bytes)) = some (some (.int .u8 0), 1, 1) := by kernel_rfl
-- the values' own types
/-! #### struct type 44 -/
structure S44 where
  f0 : Int
  f1 : Int
  f2 : Int
  f3 : Int
  f4 : Int
  f5 : Int
  f6 : Int
  f7 : Int
  f8 : Int
  f9 : Int
  f10 : Int
  f11 : Int
  f12 : Int
  f13 : Int
  f14 : Int
  f15 : Int
def z44 : S44 := ⟨(0 : Int), (0 : Int), (0 : Int), (0 : Int), (0 : Int), (0 : Int), (0 : Int), (0 : Int), (0 : Int), (0 : Int), (0 : Int), (0 : Int), (0 : Int), (0 : Int), (0 : Int), (0 : Int)⟩
def k44 : Kd S44 := Kd.iso (Kd.pair (Kd.int .u8) (Kd.pair (Kd.int .u8) (Kd.pair (Kd.int .u8) (Kd.pair (Kd.int .u8) (Kd.pair (Kd.int .u8) (Kd.pair (Kd.int .u8) (Kd.pair (Kd.int .u8) (Kd.pair (Kd.int .u8) (Kd.pair (Kd.int .u8) (Kd.pair (Kd.int .u8) (Kd.pair (Kd.int .u8) (Kd.pair (Kd.int .u8) (Kd.pair (Kd.int .u8) (Kd.pair (Kd.int .u8) (Kd.pair (Kd.int .u8) (Kd.int .u8)))))))))))))))) (fun x : S44 => (x.f0, x.f1, x.f2, x.f3, x.f4, x.f5, x.f6, x.f7, x.f8, x.f9, x.f10, x.f11, x.f12, x.f13, x.f14, x.f15))
theorem k44_open {w : World} {x : S44} {cs : List Value} (h : k44.K w x cs) : cs = [.int .u8 x.f0, .int .u8 x.f1, .int .u8 x.f2, .int .u8 x.f3, .int .u8 x.f4, .int .u8 x.f5, .int .u8 x.f6, .int .u8 x.f7, .int .u8 x.f8, .int .u8 x.f9, .int .u8 x.f10, .int .u8 x.f11, .int .u8 x.f12, .int .u8 x.f13, .int .u8 x.f14, .int .u8 x.f15] := by
  obtain ⟨_, _, rfl, rfl, ⟨_, _, rfl, rfl, ⟨_, _, rfl, rfl, ⟨_, _, rfl, rfl, ⟨_, _, rfl, rfl, ⟨_, _, rfl, rfl, ⟨_, _, rfl, rfl, ⟨_, _, rfl, rfl, ⟨_, _, rfl, rfl, ⟨_, _, rfl, rfl, ⟨_, _, rfl, rfl, ⟨_, _, rfl, rfl, ⟨_, _, rfl, rfl, ⟨_, _, rfl, rfl, ⟨_, _, rfl, rfl, rfl⟩⟩⟩⟩⟩⟩⟩⟩⟩⟩⟩⟩⟩⟩⟩ := h
  exact rfl
theorem k44_openM {w : World} {base : Nat} {ok : Nat → Prop} {x : S44} {cs : List Value} (h : k44.M w base ok x cs) : cs = [.int .u8 x.f0, .int .u8 x.f1, .int .u8 x.f2, .int .u8 x.f3, .int .u8 x.f4, .int .u8 x.f5, .int .u8 x.f6, .int .u8 x.f7, .int .u8 x.f8, .int .u8 x.f9, .int .u8 x.f10, .int .u8 x.f11, .int .u8 x.f12, .int .u8 x.f13, .int .u8 x.f14, .int .u8 x.f15] := by
  obtain ⟨_, _, rfl, rfl, ⟨_, _, rfl, rfl, ⟨_, _, rfl, rfl, ⟨_, _, rfl, rfl, ⟨_, _, rfl, rfl, ⟨_, _, rfl, rfl, ⟨_, _, rfl, rfl, ⟨_, _, rfl, rfl, ⟨_, _, rfl, rfl, ⟨_, _, rfl, rfl, ⟨_, _, rfl, rfl, ⟨_, _, rfl, rfl, ⟨_, _, rfl, rfl, ⟨_, _, rfl, rfl, ⟨_, _, rfl, rfl, rfl⟩⟩⟩⟩⟩⟩⟩⟩⟩⟩⟩⟩⟩⟩⟩ := h
  exact rfl
theorem k44_mk (w : World) (x : S44)  : k44.K w x [.int .u8 x.f0, .int .u8 x.f1, .int .u8 x.f2, .int .u8 x.f3, .int .u8 x.f4, .int .u8 x.f5, .int .u8 x.f6, .int .u8 x.f7, .int .u8 x.f8, .int .u8 x.f9, .int .u8 x.f10, .int .u8 x.f11, .int .u8 x.f12, .int .u8 x.f13, .int .u8 x.f14, .int .u8 x.f15] := ⟨[.int .u8 x.f0], [.int .u8 x.f1, .int .u8 x.f2, .int .u8 x.f3, .int .u8 x.f4, .int .u8 x.f5, .int .u8 x.f6, .int .u8 x.f7, .int .u8 x.f8, .int .u8 x.f9, .int .u8 x.f10, .int .u8 x.f11, .int .u8 x.f12, .int .u8 x.f13, .int .u8 x.f14, .int .u8 x.f15], rfl, rfl, ⟨[.int .u8 x.f1], [.int .u8 x.f2, .int .u8 x.f3, .int .u8 x.f4, .int .u8 x.f5, .int .u8 x.f6, .int .u8 x.f7, .int .u8 x.f8, .int .u8 x.f9, .int .u8 x.f10, .int .u8 x.f11, .int .u8 x.f12, .int .u8 x.f13, .int .u8 x.f14, .int .u8 x.f15], rfl, rfl, ⟨[.int .u8 x.f2], [.int .u8 x.f3, .int .u8 x.f4, .int .u8 x.f5, .int .u8 x.f6, .int .u8 x.f7, .int .u8 x.f8, .int .u8 x.f9, .int .u8 x.f10, .int .u8 x.f11, .int .u8 x.f12, .int .u8 x.f13, .int .u8 x.f14, .int .u8 x.f15], rfl, rfl, ⟨[.int .u8 x.f3], [.int .u8 x.f4, .int .u8 x.f5, .int .u8 x.f6, .int .u8 x.f7, .int .u8 x.f8, .int .u8 x.f9, .int .u8 x.f10, .int .u8 x.f11, .int .u8 x.f12, .int .u8 x.f13, .int .u8 x.f14, .int .u8 x.f15], rfl, rfl, ⟨[.int .u8 x.f4], [.int .u8 x.f5, .int .u8 x.f6, .int .u8 x.f7, .int .u8 x.f8, .int .u8 x.f9, .int .u8 x.f10, .int .u8 x.f11, .int .u8 x.f12, .int .u8 x.f13, .int .u8 x.f14, .int .u8 x.f15], rfl, rfl, ⟨[.int .u8 x.f5], [.int .u8 x.f6, .int .u8 x.f7, .int .u8 x.f8, .int .u8 x.f9, .int .u8 x.f10, .int .u8 x.f11, .int .u8 x.f12, .int .u8 x.f13, .int .u8 x.f14, .int .u8 x.f15], rfl, rfl, ⟨[.int .u8 x.f6], [.int .u8 x.f7, .int .u8 x.f8, .int .u8 x.f9, .int .u8 x.f10, .int .u8 x.f11, .int .u8 x.f12, .int .u8 x.f13, .int .u8 x.f14, .int .u8 x.f15], rfl, rfl, ⟨[.int .u8 x.f7], [.int .u8 x.f8, .int .u8 x.f9, .int .u8 x.f10, .int .u8 x.f11, .int .u8 x.f12, .int .u8 x.f13, .int .u8 x.f14, .int .u8 x.f15], rfl, rfl, ⟨[.int .u8 x.f8], [.int .u8 x.f9, .int .u8 x.f10, .int .u8 x.f11, .int .u8 x.f12, .int .u8 x.f13, .int .u8 x.f14, .int .u8 x.f15], rfl, rfl, ⟨[.int .u8 x.f9], [.int .u8 x.f10, .int .u8 x.f11, .int .u8 x.f12, .int .u8 x.f13, .int .u8 x.f14, .int .u8 x.f15], rfl, rfl, ⟨[.int .u8 x.f10], [.int .u8 x.f11, .int .u8 x.f12, .int .u8 x.f13, .int .u8 x.f14, .int .u8 x.f15], rfl, rfl, ⟨[.int .u8 x.f11], [.int .u8 x.f12, .int .u8 x.f13, .int .u8 x.f14, .int .u8 x.f15], rfl, rfl, ⟨[.int .u8 x.f12], [.int .u8 x.f13, .int .u8 x.f14, .int .u8 x.f15], rfl, rfl, ⟨[.int .u8 x.f13], [.int .u8 x.f14, .int .u8 x.f15], rfl, rfl, ⟨[.int .u8 x.f14], [.int .u8 x.f15], rfl, rfl, rfl⟩⟩⟩⟩⟩⟩⟩⟩⟩⟩⟩⟩⟩⟩⟩
theorem k44_mkM (w : World) (base : Nat) (ok : Nat → Prop) (x : S44)  : k44.M w base ok x [.int .u8 x.f0, .int .u8 x.f1, .int .u8 x.f2, .int .u8 x.f3, .int .u8 x.f4, .int .u8 x.f5, .int .u8 x.f6, .int .u8 x.f7, .int .u8 x.f8, .int .u8 x.f9, .int .u8 x.f10, .int .u8 x.f11, .int .u8 x.f12, .int .u8 x.f13, .int .u8 x.f14, .int .u8 x.f15] := ⟨[.int .u8 x.f0], [.int .u8 x.f1, .int .u8 x.f2, .int .u8 x.f3, .int .u8 x.f4, .int .u8 x.f5, .int .u8 x.f6, .int .u8 x.f7, .int .u8 x.f8, .int .u8 x.f9, .int .u8 x.f10, .int .u8 x.f11, .int .u8 x.f12, .int .u8 x.f13, .int .u8 x.f14, .int .u8 x.f15], rfl, rfl, ⟨[.int .u8 x.f1], [.int .u8 x.f2, .int .u8 x.f3, .int .u8 x.f4, .int .u8 x.f5, .int .u8 x.f6, .int .u8 x.f7, .int .u8 x.f8, .int .u8 x.f9, .int .u8 x.f10, .int .u8 x.f11, .int .u8 x.f12, .int .u8 x.f13, .int .u8 x.f14, .int .u8 x.f15], rfl, rfl, ⟨[.int .u8 x.f2], [.int .u8 x.f3, .int .u8 x.f4, .int .u8 x.f5, .int .u8 x.f6, .int .u8 x.f7, .int .u8 x.f8, .int .u8 x.f9, .int .u8 x.f10, .int .u8 x.f11, .int .u8 x.f12, .int .u8 x.f13, .int .u8 x.f14, .int .u8 x.f15], rfl, rfl, ⟨[.int .u8 x.f3], [.int .u8 x.f4, .int .u8 x.f5, .int .u8 x.f6, .int .u8 x.f7, .int .u8 x.f8, .int .u8 x.f9, .int .u8 x.f10, .int .u8 x.f11, .int .u8 x.f12, .int .u8 x.f13, .int .u8 x.f14, .int .u8 x.f15], rfl, rfl, ⟨[.int .u8 x.f4], [.int .u8 x.f5, .int .u8 x.f6, .int .u8 x.f7, .int .u8 x.f8, .int .u8 x.f9, .int .u8 x.f10, .int .u8 x.f11, .int .u8 x.f12, .int .u8 x.f13, .int .u8 x.f14, .int .u8 x.f15], rfl, rfl, ⟨[.int .u8 x.f5], [.int .u8 x.f6, .int .u8 x.f7, .int .u8 x.f8, .int .u8 x.f9, .int .u8 x.f10, .int .u8 x.f11, .int .u8 x.f12, .int .u8 x.f13, .int .u8 x.f14, .int .u8 x.f15], rfl, rfl, ⟨[.int .u8 x.f6], [.int .u8 x.f7, .int .u8 x.f8, .int .u8 x.f9, .int .u8 x.f10, .int .u8 x.f11, .int .u8 x.f12, .int .u8 x.f13, .int .u8 x.f14, .int .u8 x.f15], rfl, rfl, ⟨[.int .u8 x.f7], [.int .u8 x.f8, .int .u8 x.f9, .int .u8 x.f10, .int .u8 x.f11, .int .u8 x.f12, .int .u8 x.f13, .int .u8 x.f14, .int .u8 x.f15], rfl, rfl, ⟨[.int .u8 x.f8], [.int .u8 x.f9, .int .u8 x.f10, .int .u8 x.f11, .int .u8 x.f12, .int .u8 x.f13, .int .u8 x.f14, .int .u8 x.f15], rfl, rfl, ⟨[.int .u8 x.f9], [.int .u8 x.f10, .int .u8 x.f11, .int .u8 x.f12, .int .u8 x.f13, .int .u8 x.f14, .int .u8 x.f15], rfl, rfl, ⟨[.int .u8 x.f10], [.int .u8 x.f11, .int .u8 x.f12, .int .u8 x.f13, .int .u8 x.f14, .int .u8 x.f15], rfl, rfl, ⟨[.int .u8 x.f11], [.int .u8 x.f12, .int .u8 x.f13, .int .u8 x.f14, .int .u8 x.f15], rfl, rfl, ⟨[.int .u8 x.f12], [.int .u8 x.f13, .int .u8 x.f14, .int .u8 x.f15], rfl, rfl, ⟨[.int .u8 x.f13], [.int .u8 x.f14, .int .u8 x.f15], rfl, rfl, ⟨[.int .u8 x.f14], [.int .u8 x.f15], rfl, rfl, rfl⟩⟩⟩⟩⟩⟩⟩⟩⟩⟩⟩⟩⟩⟩⟩
def rd_T44 (xs : List S44) (i : Int) : S44 := xs.getD i.toNat z44
theorem at_T44 {w : World} {A : Option Addr} {n : Nat} {xs : List S44} (h : Kd.C k44 w A n xs) (i : Int) (h0 : 0 ≤ i) (h1 : i < n) : ∃ ad , A = some ad ∧ w.cell? (ad.add (i.toNat * 16)) = some (.int .u8 (rd_T44 xs i).f0) ∧ w.cell? ⟨(ad.add (i.toNat * 16)).block, (ad.add (i.toNat * 16)).off + 1, none⟩ = some (.int .u8 (rd_T44 xs i).f1) ∧ w.cell? ⟨(ad.add (i.toNat * 16)).block, (ad.add (i.toNat * 16)).off + 2, none⟩ = some (.int .u8 (rd_T44 xs i).f2) ∧ w.cell? ⟨(ad.add (i.toNat * 16)).block, (ad.add (i.toNat * 16)).off + 3, none⟩ = some (.int .u8 (rd_T44 xs i).f3) ∧ w.cell? ⟨(ad.add (i.toNat * 16)).block, (ad.add (i.toNat * 16)).off + 4, none⟩ = some (.int .u8 (rd_T44 xs i).f4) ∧ w.cell? ⟨(ad.add (i.toNat * 16)).block, (ad.add (i.toNat * 16)).off + 5, none⟩ = some (.int .u8 (rd_T44 xs i).f5) ∧ w.cell? ⟨(ad.add (i.toNat * 16)).block, (ad.add (i.toNat * 16)).off + 6, none⟩ = some (.int .u8 (rd_T44 xs i).f6) ∧ w.cell? ⟨(ad.add (i.toNat * 16)).block, (ad.add (i.toNat * 16)).off + 7, none⟩ = some (.int .u8 (rd_T44 xs i).f7) ∧ w.cell? ⟨(ad.add (i.toNat * 16)).block, (ad.add (i.toNat * 16)).off + 8, none⟩ = some (.int .u8 (rd_T44 xs i).f8) ∧ w.cell? ⟨(ad.add (i.toNat * 16)).block, (ad.add (i.toNat * 16)).off + 9, none⟩ = some (.int .u8 (rd_T44 xs i).f9) ∧ w.cell? ⟨(ad.add (i.toNat * 16)).block, (ad.add (i.toNat * 16)).off + 10, none⟩ = some (.int .u8 (rd_T44 xs i).f10) ∧ w.cell? ⟨(ad.add (i.toNat * 16)).block, (ad.add (i.toNat * 16)).off + 11, none⟩ = some (.int .u8 (rd_T44 xs i).f11) ∧ w.cell? ⟨(ad.add (i.toNat * 16)).block, (ad.add (i.toNat * 16)).off + 12, none⟩ = some (.int .u8 (rd_T44 xs i).f12) ∧ w.cell? ⟨(ad.add (i.toNat * 16)).block, (ad.add (i.toNat * 16)).off + 13, none⟩ = some (.int .u8 (rd_T44 xs i).f13) ∧ w.cell? ⟨(ad.add (i.toNat * 16)).block, (ad.add (i.toNat * 16)).off + 14, none⟩ = some (.int .u8 (rd_T44 xs i).f14) ∧ w.cell? ⟨(ad.add (i.toNat * 16)).block, (ad.add (i.toNat * 16)).off + 15, none⟩ = some (.int .u8 (rd_T44 xs i).f15) := by
  obtain ⟨ad, c, e, _, hK, hc0⟩ := Kd.C_get h z44 i h0 h1
  have hc : ∀ j u, c[j]? = some u → w.cell? (ad.add (i.toNat * 16 + j)) = some u := hc0
  obtain rfl := k44_open hK
  exact ⟨ad, e, hc 0 _ rfl, by rw [← add_field _ _ 1 (by omega)]; exact hc 1 _ rfl, by rw [← add_field _ _ 2 (by omega)]; exact hc 2 _ rfl, by rw [← add_field _ _ 3 (by omega)]; exact hc 3 _ rfl, by rw [← add_field _ _ 4 (by omega)]; exact hc 4 _ rfl, by rw [← add_field _ _ 5 (by omega)]; exact hc 5 _ rfl, by rw [← add_field _ _ 6 (by omega)]; exact hc 6 _ rfl, by rw [← add_field _ _ 7 (by omega)]; exact hc 7 _ rfl, by rw [← add_field _ _ 8 (by omega)]; exact hc 8 _ rfl, by rw [← add_field _ _ 9 (by omega)]; exact hc 9 _ rfl, by rw [← add_field _ _ 10 (by omega)]; exact hc 10 _ rfl, by rw [← add_field _ _ 11 (by omega)]; exact hc 11 _ rfl, by rw [← add_field _ _ 12 (by omega)]; exact hc 12 _ rfl, by rw [← add_field _ _ 13 (by omega)]; exact hc 13 _ rfl, by rw [← add_field _ _ 14 (by omega)]; exact hc 14 _ rfl, by rw [← add_field _ _ 15 (by omega)]; exact hc 15 _ rfl⟩

/-! #### struct type 46 -/
structure S46 where
  f0 : Int
  f1 : Int
def z46 : S46 := ⟨(0 : Int), (0 : Int)⟩
def k46 : Kd S46 := Kd.iso (Kd.pair (Kd.int .u32) (Kd.int .u32)) (fun x : S46 => (x.f0, x.f1))
theorem k46_open {w : World} {x : S46} {cs : List Value} (h : k46.K w x cs) : cs = [.int .u32 x.f0, .int .u32 x.f1] := by
  obtain ⟨_, _, rfl, rfl, rfl⟩ := h
  exact rfl
theorem k46_openM {w : World} {base : Nat} {ok : Nat → Prop} {x : S46} {cs : List Value} (h : k46.M w base ok x cs) : cs = [.int .u32 x.f0, .int .u32 x.f1] := by
  obtain ⟨_, _, rfl, rfl, rfl⟩ := h
  exact rfl
theorem k46_mk (w : World) (x : S46)  : k46.K w x [.int .u32 x.f0, .int .u32 x.f1] := ⟨[.int .u32 x.f0], [.int .u32 x.f1], rfl, rfl, rfl⟩
theorem k46_mkM (w : World) (base : Nat) (ok : Nat → Prop) (x : S46)  : k46.M w base ok x [.int .u32 x.f0, .int .u32 x.f1] := ⟨[.int .u32 x.f0], [.int .u32 x.f1], rfl, rfl, rfl⟩
def rd_T46 (xs : List S46) (i : Int) : S46 := xs.getD i.toNat z46
theorem at_T46 {w : World} {A : Option Addr} {n : Nat} {xs : List S46} (h : Kd.C k46 w A n xs) (i : Int) (h0 : 0 ≤ i) (h1 : i < n) : ∃ ad , A = some ad ∧ w.cell? (ad.add (i.toNat * 2)) = some (.int .u32 (rd_T46 xs i).f0) ∧ w.cell? ⟨(ad.add (i.toNat * 2)).block, (ad.add (i.toNat * 2)).off + 1, none⟩ = some (.int .u32 (rd_T46 xs i).f1) := by
  obtain ⟨ad, c, e, _, hK, hc0⟩ := Kd.C_get h z46 i h0 h1
  have hc : ∀ j u, c[j]? = some u → w.cell? (ad.add (i.toNat * 2 + j)) = some u := hc0
  obtain rfl := k46_open hK
  exact ⟨ad, e, hc 0 _ rfl, by rw [← add_field _ _ 1 (by omega)]; exact hc 1 _ rfl⟩

/-! #### struct type 47 -/
structure S47 where
  f0 : Int
  f1 : Int
def z47 : S47 := ⟨(0 : Int), (0 : Int)⟩
def k47 : Kd S47 := Kd.iso (Kd.pair (Kd.int .u32) (Kd.int .u32)) (fun x : S47 => (x.f0, x.f1))
theorem k47_open {w : World} {x : S47} {cs : List Value} (h : k47.K w x cs) : cs = [.int .u32 x.f0, .int .u32 x.f1] := by
  obtain ⟨_, _, rfl, rfl, rfl⟩ := h
  exact rfl
theorem k47_openM {w : World} {base : Nat} {ok : Nat → Prop} {x : S47} {cs : List Value} (h : k47.M w base ok x cs) : cs = [.int .u32 x.f0, .int .u32 x.f1] := by
  obtain ⟨_, _, rfl, rfl, rfl⟩ := h
  exact rfl
theorem k47_mk (w : World) (x : S47)  : k47.K w x [.int .u32 x.f0, .int .u32 x.f1] := ⟨[.int .u32 x.f0], [.int .u32 x.f1], rfl, rfl, rfl⟩
theorem k47_mkM (w : World) (base : Nat) (ok : Nat → Prop) (x : S47)  : k47.M w base ok x [.int .u32 x.f0, .int .u32 x.f1] := ⟨[.int .u32 x.f0], [.int .u32 x.f1], rfl, rfl, rfl⟩
def rd_T47 (xs : List S47) (i : Int) : S47 := xs.getD i.toNat z47
theorem at_T47 {w : World} {A : Option Addr} {n : Nat} {xs : List S47} (h : Kd.C k47 w A n xs) (i : Int) (h0 : 0 ≤ i) (h1 : i < n) : ∃ ad , A = some ad ∧ w.cell? (ad.add (i.toNat * 2)) = some (.int .u32 (rd_T47 xs i).f0) ∧ w.cell? ⟨(ad.add (i.toNat * 2)).block, (ad.add (i.toNat * 2)).off + 1, none⟩ = some (.int .u32 (rd_T47 xs i).f1) := by
  obtain ⟨ad, c, e, _, hK, hc0⟩ := Kd.C_get h z47 i h0 h1
  have hc : ∀ j u, c[j]? = some u → w.cell? (ad.add (i.toNat * 2 + j)) = some u := hc0
  obtain rfl := k47_open hK
  exact ⟨ad, e, hc 0 _ rfl, by rw [← add_field _ _ 1 (by omega)]; exact hc 1 _ rfl⟩

def rd_L5 (xs : List (List Int)) (i : Int) : (List Int) := xs.getD i.toNat ([] : List Int)
theorem at_L5 {w : World} {A : Option Addr} {n : Nat} {xs : List (List Int)} (h : Kd.C (Kd.slice 5 (Kd.int .u8)) w A n xs) (i : Int) (h0 : 0 ≤ i) (h1 : i < n) : ∃ ad A0 c0, A = some ad ∧ w.cell? (ad.add i.toNat) = some (.slice A0 (rd_L5 xs i).length c0) ∧ (rd_L5 xs i).length ≤ c0 ∧ (Kd.int .u8).C w A0 (rd_L5 xs i).length (rd_L5 xs i) := by
  obtain ⟨ad, c, e, _, hK, hc0⟩ := Kd.C_get h ([] : List Int) i h0 h1
  have hc : ∀ j u, c[j]? = some u → w.cell? (ad.add (i.toNat * 1 + j)) = some u := hc0
  obtain ⟨A0, c0, rfl, l0, g0⟩ := hK
  exact ⟨ad, A0, c0, e, by have hq := hc 0 _ rfl; rwa [Nat.mul_one, Nat.add_zero] at hq, l0, g0⟩

end Go.Proofs.Ytmibdlapjddfoaa.QXtea
