/- What the library's walks of this seat ask of the package-level variables; it lasts as long as nothing that lay there turns. | strconv.FormatUint(u, 10): the decimal digits of u. Condition: the library's table of the powers of ten holds what its text lays. | asm.Number: the decimal digits. Condition: GlobW (the library's table of the powers of ten). -/
import Derived.Test.YtpgjcjgmokfofaaDoorGShelf
import Derived.Test.YtpgjcjgmokfofaaDoorPr0
import Derived.Lib.LaidTab
import Derived.Lib.Walk
import Derived.Lib.ItoaMem
import Derived.WalkKit
import Derived.BigCall
import Derived.BigGuard
import Derived.Lib.AppendIntMem
namespace Go.Proofs.YtpgjcjgmokfofaaDoor.Pr
open Go.RowKit

structure GlobAt (w : World) : Prop where
  pow : Lib.TabIs Tryd.prog w "internal/strconv.uint64pow10" .u64 Lib.pow10Tab
  syn : ∃ tp p, w.var? Tryd.prog "strconv.ErrSyntax" = some #[.iface tp p]
  rng : ∃ tp p, w.var? Tryd.prog "strconv.ErrRange" = some #[.iface tp p]
/-- The facts hold here and wherever nothing that lies here has turned. -/
def GlobW (w : World) : Prop := ∀ w' : World, Below w.heap.size w w' → GlobAt w'
theorem GlobW.here {w : World} (h : GlobW w) : GlobAt w := h w (Below.refl _ _)
theorem GlobW.on {w w' : World} (h : GlobW w) (hb : Below w.heap.size w w') : GlobW w' := fun w2 h2 => h w2 (hb.trans (h2.mono hb.size))
theorem var_below {w w' : World} {s : String} {c : Array Value} (h : w.var? Tryd.prog s = some c) (hb : Below w.heap.size w w') : w'.var? Tryd.prog s = some c := by
  unfold World.var? at *
  cases hg : Tryd.prog.globalNamed s with
  | none => simp [hg] at h
  | some g =>
    simp only [hg, Option.bind_some] at h ⊢
    have hlt : g < w.heap.size := by
      rcases Nat.lt_or_ge g w.heap.size with h' | h'
      · exact h'
      · rw [Array.getElem?_eq_none h'] at h; simp at h
    rw [hb.block g hlt]
    exact h
theorem globW_of {w : World} (h : GlobAt w) : GlobW w := fun w' hb => by
  obtain ⟨h1, ⟨t2, p2, h2⟩, ⟨t3, p3, h3⟩⟩ := h
  exact ⟨var_below h1 hb, ⟨t2, p2, var_below h2 hb⟩, ⟨t3, p3, var_below h3 hb⟩⟩
end Go.Proofs.YtpgjcjgmokfofaaDoor.Pr

namespace Go.Proofs.YtpgjcjgmokfofaaDoor.Lb
open Go.Shelf Go.RowKit Go.Sort Go.Lib

theorem holds_zero0 (w : World) (T : TypeId) (nd : Nat) (hs : nd ≤ 24) : Holds (fun (b : UInt8) => Value.int .u8 (b.toNat : Int)) (w.alloc (.cells zeros24 T)) w.heap.size 0 (Array.replicate nd (0 : UInt8)) := fun j hj => by
  have hj' : j < nd := by simpa using hj
  refine ⟨?_, World.frozen?_alloc_new _ _ _ _⟩
  rw [World.cell?_alloc_new, zeros24_at _ (by omega), getElem!_pos _ j hj]
  simp
theorem fin_pos0 (w : World) (o : Obj) (dk : Array UInt8) (k : Nat) : ∃ os, (putRow (fun (b : UInt8) => Value.int .u8 (b.toNat : Int)) (w.alloc o) w.heap.size 0 dk).drewN k = grow (w.drewN k) os := by
  rw [alloc_eq_grow]
  obtain ⟨os', _, e⟩ := putRow_grow_new (fun (b : UInt8) => Value.int .u8 (b.toNat : Int)) w #[o] w.heap.size 0 dk (Nat.le_refl _)
  exact ⟨os', by rw [e]; rfl⟩

set_option maxHeartbeats 6400000 in
set_option maxRecDepth 100000 in
theorem FormatUint_10 (u : Nat) (hu64 : u < 18446744073709551616) (w : World) (htab : Lib.TabIs Tryd.prog w "internal/strconv.uint64pow10" .u64 Lib.pow10Tab) :
    Calls Tryd.prog 51 #[.int .u64 u, .int .i64 10] w fun e w' => e = .returned (.string ⟨(Lib.decDigits u).toArray⟩) ∧ ∃ k os, w' = grow (w.drewN k) os := by
  by_cases hs : u < 100
  · go_enter Tryd.func51, Tryd.ntmps51
    go_wp2_with (go_at_call 64; refine (Tryd.internal_strconv_small u hs _).mono ?_; rintro e w' ⟨rfl, rfl⟩)
    go_ret
    exact ⟨rfl, 0, #[], by simp [World.drewN_zero]⟩
  · have hu1 : 1 ≤ u := by omega
    have hnd20 : Lib.nDigits u ≤ 20 := by have := Lib.numDigits_eq u hu1 hu64; split at this <;> omega
    have hb3 : Lib.nDigits u ≤ 23 := by omega
    have hal : Tryd.prog.arrayLen 86 = 24 := by simp [Program.arrayLen, Tryd.underlying86]
    have hsl1 : ∀ W, (Instr.sliceAt 86 (.pointer (some ⟨w.heap.size, 0, none⟩)) none (some (.int .i64 (Lib.nDigits u : Int))) none).run Tryd.prog W = .ok (.slice (some ⟨w.heap.size, 0, none⟩) (Lib.nDigits u) 24) W := fun W => by
      rw [run_sliceAt_array_h W 86 ⟨w.heap.size, 0, none⟩ (by simp [Program.arrayLen, Program.elem, Tryd.underlying86]) .i64 (Lib.nDigits u : Int) (by omega) (by rw [hal]; omega)]
      go_simp
    have hH0 := holds_zero0 w 86 (Lib.nDigits u) (by omega)
    have hfmt := Tryd.internal_strconv_formatBase10 w.heap.size 0 24 u (Array.replicate (Lib.nDigits u) 0) (w.alloc (.cells Lib.zeros24 86)) hH0 (by rw [Array.size_replicate]; exact Lib.lt_pow_nDigits u) hu64 (by rw [Array.size_replicate]; omega)
    rw [Array.size_replicate] at hfmt
    have HH0 := Lib.hid hH0
    clear hH0 hal
    go_enter Tryd.func51, Tryd.ntmps51
    go_wp2_with (first
      | (go_at_call 65; refine (Tryd.internal_strconv_numDigits u hu1 hu64 _ (Lib.tabIs_alloc htab _)).mono ?_; rintro e w' ⟨rfl, rfl⟩))
    go_at_call 66
    refine hfmt.mono ?_
    rintro e w' ⟨rfl, k, v', dk, rfl, hF⟩
    have hcv : (convert 54 9 (.slice (some ⟨w.heap.size, 0, none⟩) (Lib.nDigits u) 24)).run Tryd.prog ((putRow (fun (b : UInt8) => Value.int .u8 (b.toNat : Int)) (w.alloc (.cells Lib.zeros24 86)) w.heap.size 0 dk).drewN k) = .ok (.string ⟨(Lib.decDigits u).toArray⟩) ((putRow (fun (b : UInt8) => Value.int .u8 (b.toNat : Int)) (w.alloc (.cells Lib.zeros24 86)) w.heap.size 0 dk).drewN k) := by
      have h := run_convert_bytes_back (P := Tryd.prog) ((putRow (fun (b : UInt8) => Value.int .u8 (b.toNat : Int)) (w.alloc (.cells Lib.zeros24 86)) w.heap.size 0 dk).drewN k) 54 9 5 ⟨w.heap.size, 0, none⟩ 24 (Lib.decDigits u) Tryd.underlying54 Tryd.underlying5 Tryd.underlying9 (fun j hj => by
        rw [Lib.row_is_numeral hF j hj, Lib.add_plain, World.cell?_drewN]
        exact cell?_putRow (fun (b : UInt8) => Value.int .u8 (b.toNat : Int)) _ w.heap.size 0 _ dk HH0.out (by rw [hF.size, Array.size_replicate]) j (by rw [hF.size]; rw [Lib.decDigits_length] at hj; exact hj))
      rw [Lib.decDigits_length] at h
      exact h
    go_wp2
    go_ret
    obtain ⟨os, eo⟩ := fin_pos0 w (.cells Lib.zeros24 86) dk k
    exact ⟨rfl, k, os, eo⟩

set_option maxHeartbeats 1600000 in
theorem FormatUint (u : Nat) (hu64 : u < 18446744073709551616) (w : World) (htab : Lib.TabIs Tryd.prog w "internal/strconv.uint64pow10" .u64 Lib.pow10Tab) :
    Calls Tryd.prog 37 #[.int .u64 u, .int .i64 10] w fun e w' => e = .returned (.string ⟨(Lib.decDigits u).toArray⟩) ∧ ∃ k os, w' = grow (w.drewN k) os := by
  go_enter Tryd.func37, Tryd.ntmps37
  go_wp2_with (go_at_call 51; refine (FormatUint_10 u hu64 _ htab).mono ?_; rintro e w' ⟨rfl, k, os, rfl⟩)
  go_ret
  exact ⟨rfl, k, os, rfl⟩
end Go.Proofs.YtpgjcjgmokfofaaDoor.Lb

namespace Go.Proofs.YtpgjcjgmokfofaaDoor.Pr
open Go.RowKit

def decB (u : Nat) : ByteArray := ⟨(Lib.decDigits u).toArray⟩
def asm_Number.f (a0 : Int) : Option ByteArray := if 0 ≤ a0 ∧ a0 < 4294967296 then some (decB a0.toNat) else none
set_option maxHeartbeats 1600000 in
set_option maxRecDepth 100000 in
theorem asm_Number.calls (a0 : Int) (r : ByteArray) (w : World) (hG : GlobW w) (h : asm_Number.f a0 = some r) : Calls Tryd.prog 29 #[.int .u32 a0] w fun e w' => e = .returned (.string r) ∧ Below w.heap.size w w' := by
  unfold asm_Number.f at h
  split at h
  · rename_i h1
    cases h
    obtain ⟨u, rfl⟩ : ∃ u : Nat, a0 = u := ⟨a0.toNat, by omega⟩
    have hc := Lb.FormatUint u (by omega) w hG.here.pow
    have hu : (u : Int) < 4294967296 := h1.2
    have hm : IntKind.u64.wrap (u : Int) = u := by rw [IntKind.wrap_u64]; omega
    go_enter Tryd.func29, Tryd.ntmps29
    go_wp2_with (go_at_call 37; refine hc.mono ?_; rintro e w' ⟨rfl, k, os, rfl⟩)
    go_ret
    exact ⟨rfl, Lib.below_grow _ w (Nat.le_refl _) k os⟩
  · cases h
end Go.Proofs.YtpgjcjgmokfofaaDoor.Pr
