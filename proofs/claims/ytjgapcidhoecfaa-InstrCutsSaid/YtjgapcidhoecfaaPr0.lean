-- Made by a program of this session (wip/tools/myprint.sh).
import Derived.Test.YtjgapcidhoecfaaProg
import Derived.Below
import Derived.Deep.Draws
import Derived.Deep.AppendLies
import Derived.Maps.AppendAt
import Derived.OwnWalk
import Derived.Laws.BytesArg
import Derived.Laws.MakeOwn
import Derived.Laws.OwnMore
import Derived.Deep.OwnRows
import Derived.Tactics
import Derived.Lib.ConvBytes
import Derived.Laws.Slices
import Derived.WalkKit
import Derived.KernelRfl
import Derived.RowKit3
import Derived.Deep.LoopGhost
import Derived.Deep.QuietTactic
import Derived.BigQuiet
import Derived.WideLaws
import Derived.Deep.DeepCutAuto
import Derived.Deep.CutBlock
import Derived.Deep.RegionHeld3
import Derived.Laws.Rows
import Derived.Lib.AppendStr
import Derived.ArgAppend
import Derived.Laws.IdiomCopy
import Derived.OrdersHeld
import Derived.Laws.BitsLemmas
import Derived.RowKit
import Derived.Test.YtjgapcidhoecfaaWWords
import Derived.Test.YtjgapcidhoecfaaWLast
import Derived.Test.YtjgapcidhoecfaaWTab
import Derived.Test.YtjgapcidhoecfaaWFour
import Derived.Test.YtjgapcidhoecfaaWQPut
import Derived.Test.YtjgapcidhoecfaaWApart
import Derived.Test.YtjgapcidhoecfaaWArr
import Derived.Test.YtjgapcidhoecfaaWZeros
import Derived.Test.YtjgapcidhoecfaaWFoot
import Derived.Test.YtjgapcidhoecfaaWKept
import Derived.Test.YtjgapcidhoecfaaWShare
import Derived.Test.YtjgapcidhoecfaaWN
import Derived.Test.YtjgapcidhoecfaaWFootNe
import Derived.Test.YtjgapcidhoecfaaWAt
import Derived.Test.YtjgapcidhoecfaaWEqStruct
import Derived.Test.YtjgapcidhoecfaaWRepsOne
import Derived.Test.YtjgapcidhoecfaaWInv
import Derived.Test.YtjgapcidhoecfaaWInvWords
import Derived.Test.YtjgapcidhoecfaaWGuard
import Derived.Test.YtjgapcidhoecfaaWNEv
import Derived.Test.YtjgapcidhoecfaaWMore
namespace Go.Proofs.Ytjgapcidhoecfaa.Pr
open Go.RowKit Go.Proofs.YtjgapcidhoecfaaW.PrintWords Go.Proofs.YtjgapcidhoecfaaW.PrintLast Go.Proofs.YtjgapcidhoecfaaW.PrintMore
attribute [local go_sem] max2_int min2_int max_two min_two max_three min_three max_four min_four   -- for this text's walks alone
set_option linter.unusedVariables false
set_option linter.unusedSimpArgs false



def errW : Option Int → Value
  | none => .nilIface
  | some c => .iface 0 (.int .i64 c)
theorem errW_none : errW none = .nilIface := rfl
theorem errW_some (c : Int) : errW (some c) = .iface 0 (.int .i64 c) := rfl

theorem info5 : (Try.prog.info? 5).map (fun i => (i.zero, i.size, i.bytes)) = some (some (.int .u8 0), 1, 1) := by kernel_rfl
theorem info39 : (Try.prog.info? 39).map (fun i => (i.zero, i.size, i.bytes)) = some (some (.agg #[(.int .u16 0), (.int .u8 0), (.int .u8 0), (.int .u32 0)]), 4, 8) := by kernel_rfl
-- the values' own types
/-! #### struct type 39 -/
structure S39 where
  f0 : Int
  f1 : Int
  f2 : Int
  f3 : Int
def z39 : S39 := ⟨(0 : Int), (0 : Int), (0 : Int), (0 : Int)⟩
def k39 : Kd S39 := Kd.iso (Kd.pair (Kd.int .u16) (Kd.pair (Kd.int .u8) (Kd.pair (Kd.int .u8) (Kd.int .u32)))) (fun x : S39 => (x.f0, x.f1, x.f2, x.f3))
theorem k39_open {w : World} {x : S39} {cs : List Value} (h : k39.K w x cs) : cs = [.int .u16 x.f0, .int .u8 x.f1, .int .u8 x.f2, .int .u32 x.f3] := by
  obtain ⟨_, _, rfl, rfl, ⟨_, _, rfl, rfl, ⟨_, _, rfl, rfl, rfl⟩⟩⟩ := h
  exact rfl
theorem k39_openM {w : World} {base : Nat} {ok : Nat → Prop} {x : S39} {cs : List Value} (h : k39.M w base ok x cs) : cs = [.int .u16 x.f0, .int .u8 x.f1, .int .u8 x.f2, .int .u32 x.f3] := by
  obtain ⟨_, _, rfl, rfl, ⟨_, _, rfl, rfl, ⟨_, _, rfl, rfl, rfl⟩⟩⟩ := h
  exact rfl
theorem k39_mk (w : World) (x : S39)  : k39.K w x [.int .u16 x.f0, .int .u8 x.f1, .int .u8 x.f2, .int .u32 x.f3] := ⟨[.int .u16 x.f0], [.int .u8 x.f1, .int .u8 x.f2, .int .u32 x.f3], rfl, rfl, ⟨[.int .u8 x.f1], [.int .u8 x.f2, .int .u32 x.f3], rfl, rfl, ⟨[.int .u8 x.f2], [.int .u32 x.f3], rfl, rfl, rfl⟩⟩⟩
theorem k39_mkM (w : World) (base : Nat) (ok : Nat → Prop) (x : S39)  : k39.M w base ok x [.int .u16 x.f0, .int .u8 x.f1, .int .u8 x.f2, .int .u32 x.f3] := ⟨[.int .u16 x.f0], [.int .u8 x.f1, .int .u8 x.f2, .int .u32 x.f3], rfl, rfl, ⟨[.int .u8 x.f1], [.int .u8 x.f2, .int .u32 x.f3], rfl, rfl, ⟨[.int .u8 x.f2], [.int .u32 x.f3], rfl, rfl, rfl⟩⟩⟩
def rd_T39 (xs : List S39) (i : Int) : S39 := xs.getD i.toNat z39
theorem at_T39 {w : World} {A : Option Addr} {n : Nat} {xs : List S39} (h : Kd.C k39 w A n xs) (i : Int) (h0 : 0 ≤ i) (h1 : i < n) : ∃ ad , A = some ad ∧ w.cell? (ad.add (i.toNat * 4)) = some (.int .u16 (rd_T39 xs i).f0) ∧ w.cell? ⟨(ad.add (i.toNat * 4)).block, (ad.add (i.toNat * 4)).off + 1, none⟩ = some (.int .u8 (rd_T39 xs i).f1) ∧ w.cell? ⟨(ad.add (i.toNat * 4)).block, (ad.add (i.toNat * 4)).off + 2, none⟩ = some (.int .u8 (rd_T39 xs i).f2) ∧ w.cell? ⟨(ad.add (i.toNat * 4)).block, (ad.add (i.toNat * 4)).off + 3, none⟩ = some (.int .u32 (rd_T39 xs i).f3) := by
  obtain ⟨ad, c, e, _, hK, hc0⟩ := Kd.C_get h z39 i h0 h1
  have hc : ∀ j u, c[j]? = some u → w.cell? (ad.add (i.toNat * 4 + j)) = some u := hc0
  obtain rfl := k39_open hK
  exact ⟨ad, e, hc 0 _ rfl, by rw [← add_field _ _ 1 (by omega)]; exact hc 1 _ rfl, by rw [← add_field _ _ 2 (by omega)]; exact hc 2 _ rfl, by rw [← add_field _ _ 3 (by omega)]; exact hc 3 _ rfl⟩

def rd_L6 (xs : List (List S39)) (i : Int) : (List S39) := xs.getD i.toNat ([] : List S39)
theorem at_L6 {w : World} {A : Option Addr} {n : Nat} {xs : List (List S39)} (h : Kd.C (Kd.slice 39 k39) w A n xs) (i : Int) (h0 : 0 ≤ i) (h1 : i < n) : ∃ ad A0 c0, A = some ad ∧ w.cell? (ad.add i.toNat) = some (.slice A0 (rd_L6 xs i).length c0) ∧ (rd_L6 xs i).length ≤ c0 ∧ k39.C w A0 (rd_L6 xs i).length (rd_L6 xs i) := by
  obtain ⟨ad, c, e, _, hK, hc0⟩ := Kd.C_get h ([] : List S39) i h0 h1
  have hc : ∀ j u, c[j]? = some u → w.cell? (ad.add (i.toNat * 1 + j)) = some u := hc0
  obtain ⟨A0, c0, rfl, l0, g0⟩ := hK
  exact ⟨ad, A0, c0, e, by have hq := hc 0 _ rfl; rwa [Nat.mul_one, Nat.add_zero] at hq, l0, g0⟩

end Go.Proofs.Ytjgapcidhoecfaa.Pr
