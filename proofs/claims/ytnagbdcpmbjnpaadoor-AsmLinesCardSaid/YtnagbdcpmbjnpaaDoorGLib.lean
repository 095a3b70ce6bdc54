/- strconv.FormatUint(u, 10): the decimal digits of u. Condition: the library's table of the powers of ten holds what its text lays. | What the library's walks of this seat ask of the package-level variables; it lasts as long as nothing that lay there turns. | asm.Number: the decimal digits. Condition: GlobW (the library's table of the powers of ten). | strings.Join: the shelf's contract in the form of this seat's walks. No condition but the length of what it makes. | strings.Split, Cut, Count (at one byte): the shelf's contracts in the form of this seat's walks. Condition: GlobW. | asm.number: a number of 8 or 32 bits, and whether its text is the number's own. Condition: GlobW. -/
import Derived.Test.YtnagbdcpmbjnpaaDoorGShelf
import Derived.Lib.Walk
import Derived.Lib.ItoaMem
import Derived.WalkKit
import Derived.BigCall
import Derived.BigGuard
import Derived.Test.YtnagbdcpmbjnpaaDoorPr0
import Derived.Lib.LaidTab
import Derived.Lib.AppendIntMem
import Derived.Lib.ParseIntBCases
import Derived.Lib.AtoiErrMem
import Derived.Laws.Entries
import Derived.Stop.IfaceNil
namespace Go.Proofs.YtnagbdcpmbjnpaaDoor.Lb
open Go.Shelf Go.RowKit Go.Sort Go.Lib

theorem holds_zero0 (w : World) (T : TypeId) (nd : Nat) (hs : nd ≤ 24) : Holds (fun (b : UInt8) => Value.int .u8 (b.toNat : Int)) (w.alloc (.cells zeros24 T)) w.heap.size 0 (Array.replicate nd (0 : UInt8)) := fun j hj => by
  have hj' : j < nd := by simpa using hj
  refine ⟨?_, World.frozen?_alloc_new _ _ _ _⟩
  rw [World.cell?_alloc_new, zeros24_at _ (by omega), getElem!_pos _ j hj]
  simp
theorem fin_pos0 (w : World) (o : Obj) (dk : Array UInt8) (k : Nat) : ∃ os, (putRow (fun (b : UInt8) => Value.int .u8 (b.toNat : Int)) (w.alloc o) w.heap.size 0 dk).drewN k = grow (w.drewN k) os := by
  rw [alloc_eq_grow]
  obtain ⟨os', _, e⟩ := putRow_grow_new (fun (b : UInt8) => Value.int .u8 (b.toNat : Int)) w #[o] w.heap.size 0 dk (Nat.le_refl _)
  exact ⟨os', by rw [e]; rfl⟩

set_option maxHeartbeats 6400000 in
set_option maxRecDepth 100000 in
theorem FormatUint_10 (u : Nat) (hu64 : u < 18446744073709551616) (w : World) (htab : Lib.TabIs Tryd.prog w "internal/strconv.uint64pow10" .u64 Lib.pow10Tab) :
    Calls Tryd.prog 49 #[.int .u64 u, .int .i64 10] w fun e w' => e = .returned (.string ⟨(Lib.decDigits u).toArray⟩) ∧ ∃ k os, w' = grow (w.drewN k) os := by
  by_cases hs : u < 100
  · go_enter Tryd.func49, Tryd.ntmps49
    go_wp2_with (go_at_call 56; refine (Tryd.internal_strconv_small u hs _).mono ?_; rintro e w' ⟨rfl, rfl⟩)
    go_ret
    exact ⟨rfl, 0, #[], by simp [World.drewN_zero]⟩
  · have hu1 : 1 ≤ u := by omega
    have hnd20 : Lib.nDigits u ≤ 20 := by have := Lib.numDigits_eq u hu1 hu64; split at this <;> omega
    have hb3 : Lib.nDigits u ≤ 23 := by omega
    have hal : Tryd.prog.arrayLen 100 = 24 := by simp [Program.arrayLen, Tryd.underlying100]
    have hsl1 : ∀ W, (Instr.sliceAt 100 (.pointer (some ⟨w.heap.size, 0, none⟩)) none (some (.int .i64 (Lib.nDigits u : Int))) none).run Tryd.prog W = .ok (.slice (some ⟨w.heap.size, 0, none⟩) (Lib.nDigits u) 24) W := fun W => by
      rw [run_sliceAt_array_h W 100 ⟨w.heap.size, 0, none⟩ (by simp [Program.arrayLen, Program.elem, Tryd.underlying100]) .i64 (Lib.nDigits u : Int) (by omega) (by rw [hal]; omega)]
      go_simp
    have hH0 := holds_zero0 w 100 (Lib.nDigits u) (by omega)
    have hfmt := Tryd.internal_strconv_formatBase10 w.heap.size 0 24 u (Array.replicate (Lib.nDigits u) 0) (w.alloc (.cells Lib.zeros24 100)) hH0 (by rw [Array.size_replicate]; exact Lib.lt_pow_nDigits u) hu64 (by rw [Array.size_replicate]; omega)
    rw [Array.size_replicate] at hfmt
    have HH0 := Lib.hid hH0
    clear hH0 hal
    go_enter Tryd.func49, Tryd.ntmps49
    go_wp2_with (first
      | (go_at_call 57; refine (Tryd.internal_strconv_numDigits u hu1 hu64 _ (Lib.tabIs_alloc htab _)).mono ?_; rintro e w' ⟨rfl, rfl⟩))
    go_at_call 58
    refine hfmt.mono ?_
    rintro e w' ⟨rfl, k, v', dk, rfl, hF⟩
    have hcv : (convert 75 9 (.slice (some ⟨w.heap.size, 0, none⟩) (Lib.nDigits u) 24)).run Tryd.prog ((putRow (fun (b : UInt8) => Value.int .u8 (b.toNat : Int)) (w.alloc (.cells Lib.zeros24 100)) w.heap.size 0 dk).drewN k) = .ok (.string ⟨(Lib.decDigits u).toArray⟩) ((putRow (fun (b : UInt8) => Value.int .u8 (b.toNat : Int)) (w.alloc (.cells Lib.zeros24 100)) w.heap.size 0 dk).drewN k) := by
      have h := run_convert_bytes_back (P := Tryd.prog) ((putRow (fun (b : UInt8) => Value.int .u8 (b.toNat : Int)) (w.alloc (.cells Lib.zeros24 100)) w.heap.size 0 dk).drewN k) 75 9 5 ⟨w.heap.size, 0, none⟩ 24 (Lib.decDigits u) Tryd.underlying75 Tryd.underlying5 Tryd.underlying9 (fun j hj => by
        rw [Lib.row_is_numeral hF j hj, Lib.add_plain, World.cell?_drewN]
        exact cell?_putRow (fun (b : UInt8) => Value.int .u8 (b.toNat : Int)) _ w.heap.size 0 _ dk HH0.out (by rw [hF.size, Array.size_replicate]) j (by rw [hF.size]; rw [Lib.decDigits_length] at hj; exact hj))
      rw [Lib.decDigits_length] at h
      exact h
    go_wp2
    go_ret
    obtain ⟨os, eo⟩ := fin_pos0 w (.cells Lib.zeros24 100) dk k
    exact ⟨rfl, k, os, eo⟩

set_option maxHeartbeats 1600000 in
theorem FormatUint (u : Nat) (hu64 : u < 18446744073709551616) (w : World) (htab : Lib.TabIs Tryd.prog w "internal/strconv.uint64pow10" .u64 Lib.pow10Tab) :
    Calls Tryd.prog 37 #[.int .u64 u, .int .i64 10] w fun e w' => e = .returned (.string ⟨(Lib.decDigits u).toArray⟩) ∧ ∃ k os, w' = grow (w.drewN k) os := by
  go_enter Tryd.func37, Tryd.ntmps37
  go_wp2_with (go_at_call 49; refine (FormatUint_10 u hu64 _ htab).mono ?_; rintro e w' ⟨rfl, k, os, rfl⟩)
  go_ret
  exact ⟨rfl, k, os, rfl⟩
end Go.Proofs.YtnagbdcpmbjnpaaDoor.Lb

namespace Go.Proofs.YtnagbdcpmbjnpaaDoor.Pr
open Go.RowKit

structure GlobAt (w : World) : Prop where
  pow : Lib.TabIs Tryd.prog w "internal/strconv.uint64pow10" .u64 Lib.pow10Tab
  syn : ∃ tp p, w.var? Tryd.prog "strconv.ErrSyntax" = some #[.iface tp p]
  rng : ∃ tp p, w.var? Tryd.prog "strconv.ErrRange" = some #[.iface tp p]
  max : ∃ m, w.cell? ⟨0, 0, none⟩ = some (.int .i64 m)
/-- The facts hold here and wherever nothing that lies here has turned. -/
def GlobW (w : World) : Prop := ∀ w' : World, Below w.heap.size w w' → GlobAt w'
theorem GlobW.here {w : World} (h : GlobW w) : GlobAt w := h w (Below.refl _ _)
theorem GlobW.on {w w' : World} (h : GlobW w) (hb : Below w.heap.size w w') : GlobW w' := fun w2 h2 => h w2 (hb.trans (h2.mono hb.size))
theorem var_below {w w' : World} {s : String} {c : Array Value} (h : w.var? Tryd.prog s = some c) (hb : Below w.heap.size w w') : w'.var? Tryd.prog s = some c := by
  unfold World.var? at *
  cases hg : Tryd.prog.globalNamed s with
  | none => simp [hg] at h
  | some g =>
    simp only [hg, Option.bind_some] at h ⊢
    have hlt : g < w.heap.size := by
      rcases Nat.lt_or_ge g w.heap.size with h' | h'
      · exact h'
      · rw [Array.getElem?_eq_none h'] at h; simp at h
    rw [hb.block g hlt]
    exact h
theorem globW_of {w : World} (h : GlobAt w) : GlobW w := fun w' hb => by
  obtain ⟨h1, ⟨t2, p2, h2⟩, ⟨t3, p3, h3⟩, ⟨m, h4⟩⟩ := h
  exact ⟨var_below h1 hb, ⟨t2, p2, var_below h2 hb⟩, ⟨t3, p3, var_below h3 hb⟩, ⟨m, (hb.cell (Lib.lt_of_cell h4)).trans h4⟩⟩
end Go.Proofs.YtnagbdcpmbjnpaaDoor.Pr

namespace Go.Proofs.YtnagbdcpmbjnpaaDoor.Pr
open Go.RowKit

def decB (u : Nat) : ByteArray := ⟨(Lib.decDigits u).toArray⟩
def asm_Number.f (a0 : Int) : Option ByteArray := if 0 ≤ a0 ∧ a0 < 4294967296 then some (decB a0.toNat) else none
set_option maxHeartbeats 1600000 in
set_option maxRecDepth 100000 in
theorem asm_Number.calls (a0 : Int) (r : ByteArray) (w : World) (hG : GlobW w) (h : asm_Number.f a0 = some r) : Calls Tryd.prog 19 #[.int .u32 a0] w fun e w' => e = .returned (.string r) ∧ Below w.heap.size w w' := by
  unfold asm_Number.f at h
  split at h
  · rename_i h1
    cases h
    obtain ⟨u, rfl⟩ : ∃ u : Nat, a0 = u := ⟨a0.toNat, by omega⟩
    have hc := Lb.FormatUint u (by omega) w hG.here.pow
    have hu : (u : Int) < 4294967296 := h1.2
    have hm : IntKind.u64.wrap (u : Int) = u := by rw [IntKind.wrap_u64]; omega
    go_enter Tryd.func19, Tryd.ntmps19
    go_wp2_with (go_at_call 37; refine hc.mono ?_; rintro e w' ⟨rfl, k, os, rfl⟩)
    go_ret
    exact ⟨rfl, Lib.below_grow _ w (Nat.le_refl _) k os⟩
  · cases h
end Go.Proofs.YtnagbdcpmbjnpaaDoor.Pr

namespace Go.Proofs.YtnagbdcpmbjnpaaDoor.Pr
open Go.RowKit Go.Proofs.YtnagbdcpmbjnpaaDoorW.PrintWords Go.Proofs.YtnagbdcpmbjnpaaDoorW.PrintLast

def joinB (l : List ByteArray) (sep : ByteArray) : ByteArray := ⟨(Lib.join (l.map (·.data.toList)) sep.data.toList).toArray⟩
def strings_Join.f (l0 : List ByteArray) (a1 : ByteArray) : Option ByteArray :=
  if l0.length ≤ 140737488355328 ∧ (Lib.join (l0.map (·.data.toList)) a1.data.toList).length ≤ 140737488355328 then some (joinB l0 a1) else none
theorem spot_of_cell {w : World} {ad : Addr} {v : Value} (h : w.cell? ad = some v) : ad = ⟨ad.block, ad.off, none⟩ := by
  obtain ⟨b, o, s⟩ := ad
  cases s with
  | none => rfl
  | some x =>
    exfalso
    unfold World.cell? at h
    cases hb : w.heap[b]? with
    | none => rw [hb] at h; cases h
    | some ob => cases ob <;> simp [hb] at h
theorem strings_Join.calls (A0 : Option Addr) (c0 : Nat) (l0 : List ByteArray) (a1 : ByteArray) (r : ByteArray) (w : World) (hr0 : Kd.string.C w A0 l0.length l0) (hc0 : l0.length ≤ c0) (h : strings_Join.f l0 a1 = some r) :
    Calls Tryd.prog 23 #[.slice A0 l0.length c0, .string a1] w fun e w' => e = .returned (.string r) ∧ Below w.heap.size w w' := by
  unfold strings_Join.f at h
  split at h
  · rename_i h1
    cases h
    cases l0 with
    | nil =>
      refine (Tryd.strings_Join_none A0 c0 a1 w).mono ?_
      rintro e w' ⟨rfl, rfl⟩
      exact ⟨rfl, Below.refl _ _⟩
    | cons x l =>
      obtain ⟨ad, hA, hx⟩ := hr0.2.2 (by simp)
      have hcell : ∀ (j : Nat) y, (x :: l)[j]? = some y → w.cell? (ad.add j) = some (.string y) := fun j y hj => by
        obtain ⟨c, hl, hR, hc⟩ := hx j y hj
        have e : c = [.string y] := hR
        subst e
        have := hc 0 _ rfl
        simpa [Kd.string, Kd.scalar] using this
      have h0 := hcell 0 x rfl
      have e0 : ad.add 0 = ad := rfl
      rw [e0] at h0
      have es := spot_of_cell h0
      have hb : ad.block < w.heap.size := by
        exact Lib.lt_of_cell h0
      subst hA
      rw [es]
      refine (Tryd.strings_Join ad.block ad.off c0 (x :: l) a1 w (fun j y hj => ?_) hb h1.1 hc0 h1.2).mono ?_
      · have h2 := hcell j y hj
        rw [spot_of_cell h2] at h2
        cases j with
        | zero => exact h2
        | succ j => exact h2
      · rintro e w' ⟨rfl, hbl⟩
        exact ⟨rfl, hbl⟩
  · cases h
end Go.Proofs.YtnagbdcpmbjnpaaDoor.Pr

namespace Go.Proofs.YtnagbdcpmbjnpaaDoor.Pr
open Go.RowKit Go.Proofs.YtnagbdcpmbjnpaaDoorW.PrintWords Go.Proofs.YtnagbdcpmbjnpaaDoorW.PrintLast

def splitL (s sep : ByteArray) : List ByteArray := Lib.splitB sep 0 (Lib.countB s sep) s
def strings_Split.f (a0 a1 : ByteArray) : Option (List ByteArray) := if a0.size < 4294967281 ∧ 1 ≤ a1.size then some (splitL a0 a1) else none
theorem strings_Split.calls (a0 a1 : ByteArray) (r : List ByteArray) (w : World) (hG : GlobW w) (h : strings_Split.f a0 a1 = some r) :
    Calls Tryd.prog 27 #[.string a0, .string a1] w fun e w' => ∃ v0_ : Value, e = .returned v0_ ∧ Kd.R Kd.string 9 w' w.heap.size (fun _ => True) v0_ r ∧ Below w.heap.size w w' := by
  unfold strings_Split.f at h
  split at h
  · rename_i h1
    cases h
    obtain ⟨m, hm⟩ := hG.here.max
    refine (Tryd.strings_Split a0 a1 m w h1.1 hm h1.2).mono ?_
    rintro e w' ⟨rfl, rfl⟩
    have hl : (splitL a0 a1).length = Lib.countB a0 a1 + 1 := Lib.splitB_all a1 h1.2 0 _ a0 rfl
    refine ⟨_, rfl, ⟨fun _ _ => trivial, ?_⟩, (Below.refl _ w).alloc (Nat.le_refl _) _⟩
    have := OwnRow.lit w w.heap.size (e := 9) (Kd.reps_scalar (enc := Value.string) (splitL a0 a1)) (Nat.le_refl _) (by
      rw [hl]
      have := Lib.countB_le a1 h1.2 a0.size a0 (Nat.le_refl _)
      omega)
    rw [hl] at this
    exact this
  · cases h

def bcut (s sep : ByteArray) : ByteArray × ByteArray × Bool := (⟨(Lib.cut s.data.toList sep.data.toList).1.toArray⟩, ⟨(Lib.cut s.data.toList sep.data.toList).2.1.toArray⟩, (Lib.cut s.data.toList sep.data.toList).2.2)
def strings_Cut.f (a0 a1 : ByteArray) : Option (ByteArray × ByteArray × Bool) := if a0.size < 4294967281 then some (bcut a0 a1) else none
theorem strings_Cut.calls (a0 a1 : ByteArray) (r1 r2 : ByteArray) (r3 : Bool) (w : World) (hG : GlobW w) (h : strings_Cut.f a0 a1 = some (r1, r2, r3)) :
    Calls Tryd.prog 34 #[.string a0, .string a1] w fun e w' => e = .returned (.tuple #[.string r1, .string r2, .bool r3]) ∧ Below w.heap.size w w' := by
  unfold strings_Cut.f at h
  split at h
  · rename_i h1
    obtain ⟨m, hm⟩ := hG.here.max
    refine (Tryd.strings_Cut a0 a1 m w h1 hm).mono ?_
    rintro e w' ⟨rfl, n, rfl⟩
    have h2 := Option.some.inj h
    unfold bcut at h2
    obtain ⟨e1, e2⟩ := Prod.mk.inj h2
    obtain ⟨e2, e3⟩ := Prod.mk.inj e2
    rw [e1, e2, e3]
    exact ⟨rfl, pw_below_drewN (Below.refl _ w) n⟩
  · cases h

def strings_Count.f (a0 a1 : ByteArray) : Option Int := if a1.size = 1 then some (Lib.countByte a0.data.toList (a1.data.getD 0 0)) else none
theorem strings_Count.calls (a0 a1 : ByteArray) (r : Int) (w : World) (h : strings_Count.f a0 a1 = some r) :
    Calls Tryd.prog 33 #[.string a0, .string a1] w fun e w' => e = .returned (.int .i64 r) ∧ Below w.heap.size w w' := by
  unfold strings_Count.f at h
  split at h
  · rename_i h1
    cases h
    have e : a1 = ⟨#[a1.data.getD 0 0]⟩ := by
      obtain ⟨d⟩ := a1
      have h2 : d.size = 1 := h1
      congr 1
      apply Array.ext
      · simpa using h2
      · intro i hi _
        obtain rfl : i = 0 := by omega
        simp [hi]
    have hc := Tryd.strings_Count_one a0 (a1.data.getD 0 0) w
    rw [← e] at hc
    refine hc.mono ?_
    rintro e w' ⟨rfl, rfl⟩
    exact ⟨rfl, Below.refl _ _⟩
  · cases h
end Go.Proofs.YtnagbdcpmbjnpaaDoor.Pr

namespace Go.Proofs.YtnagbdcpmbjnpaaDoor.Pr
set_option linter.unusedSimpArgs false
set_option linter.unusedVariables false
open Go.RowKit Go.Proofs.YtnagbdcpmbjnpaaDoorW.PrintWords Go.Proofs.YtnagbdcpmbjnpaaDoorW.PrintLast

/-- What the call answers at B bits. -/
def numAt (B : Nat) (s : ByteArray) : Int × Bool := match Lib.parseUintB B s.data.toList with
  | .ok u => ((u : Int), Lib.decDigits u == s.toList)
  | .«syntax» => (0, false)
  | .range => (((2 ^ B - 1 : Nat) : Int), false)

theorem bytes_below (w w' : World) (s : ByteArray) (h : w' = w ∨ w' = Lib.bytesWorld w 5 s) : Below w.heap.size w w' := by
  rcases h with rfl | rfl
  · exact Below.refl _ _
  · exact Lib.bytesWorld_below _ _ _

theorem ParseUint32 (s : ByteArray) (hlim : s.size ≤ 281474976710656) (w : World) (hG : GlobW w) :
    Calls Tryd.prog 43 #[.string s, .int .i64 10, .int .i64 32] w fun e w' => ∃ (n : Int) (ev : Value), e = .returned (.tuple #[.int .u64 n, ev]) ∧ Below w.heap.size w w' ∧
      ((∃ u : Nat, Lib.parseUintB 32 s.data.toList = .ok u ∧ n = u ∧ ev = .nilIface) ∨ ((numAt 32 s = (n, false)) ∧ ∃ t p, ev = .iface t p)) := by
  cases hp : Lib.parseUintB 32 s.data.toList with
  | ok u =>
    refine (Tryd.strconv_ParseUint_10_at32_ok s (by omega) u hp w).mono ?_
    rintro e w' ⟨rfl, h⟩
    exact ⟨_, _, rfl, bytes_below _ _ _ h, .inl ⟨u, rfl, rfl, rfl⟩⟩
  | «syntax» =>
    obtain ⟨tp, p, hv⟩ := hG.here.syn
    refine (Tryd.strconv_ParseUint_10_at32_syntax_var s hlim hp tp p w hv).mono ?_
    rintro e w' ⟨N, rfl, _, _, hb⟩
    exact ⟨_, _, rfl, hb, .inr ⟨by unfold numAt; rw [hp], _, _, rfl⟩⟩
  | range =>
    obtain ⟨tp, p, hv⟩ := hG.here.rng
    refine (Tryd.strconv_ParseUint_10_at32_range_var s hlim hp tp p w hv).mono ?_
    rintro e w' ⟨N, rfl, _, _, hb⟩
    exact ⟨_, _, rfl, hb, .inr ⟨by unfold numAt; rw [hp]; rfl, _, _, rfl⟩⟩

theorem ParseUint8 (s : ByteArray) (hlim : s.size ≤ 281474976710656) (w : World) (hG : GlobW w) :
    Calls Tryd.prog 43 #[.string s, .int .i64 10, .int .i64 8] w fun e w' => ∃ (n : Int) (ev : Value), e = .returned (.tuple #[.int .u64 n, ev]) ∧ Below w.heap.size w w' ∧
      ((∃ u : Nat, Lib.parseUintB 8 s.data.toList = .ok u ∧ n = u ∧ ev = .nilIface) ∨ ((numAt 8 s = (n, false)) ∧ ∃ t p, ev = .iface t p)) := by
  cases hp : Lib.parseUintB 8 s.data.toList with
  | ok u =>
    refine (Tryd.strconv_ParseUint_10_at8_ok s (by omega) u hp w).mono ?_
    rintro e w' ⟨rfl, h⟩
    exact ⟨_, _, rfl, bytes_below _ _ _ h, .inl ⟨u, rfl, rfl, rfl⟩⟩
  | «syntax» =>
    obtain ⟨tp, p, hv⟩ := hG.here.syn
    refine (Tryd.strconv_ParseUint_10_at8_syntax_var s hlim hp tp p w hv).mono ?_
    rintro e w' ⟨N, rfl, _, _, hb⟩
    exact ⟨_, _, rfl, hb, .inr ⟨by unfold numAt; rw [hp], _, _, rfl⟩⟩
  | range =>
    obtain ⟨tp, p, hv⟩ := hG.here.rng
    refine (Tryd.strconv_ParseUint_10_at8_range_var s hlim hp tp p w hv).mono ?_
    rintro e w' ⟨N, rfl, _, _, hb⟩
    exact ⟨_, _, rfl, hb, .inr ⟨by unfold numAt; rw [hp]; rfl, _, _, rfl⟩⟩

def asm_number.f (a0 : ByteArray) (a1 : Int) : Option (Int × Bool) := if a0.size ≤ 281474976710656 then (if a1 = 32 then some (numAt 32 a0) else if a1 = 8 then some (numAt 8 a0) else none) else none

set_option maxHeartbeats 3200000 in
set_option maxRecDepth 100000 in
theorem number_core (B : Nat) (hB : B = 32 ∨ B = 8) (s : ByteArray) (w : World) (hG : GlobW w) (hc : Calls Tryd.prog 43 #[.string s, .int .i64 10, .int .i64 B] w fun e w' => ∃ (n : Int) (ev : Value), e = .returned (.tuple #[.int .u64 n, ev]) ∧ Below w.heap.size w w' ∧
      ((∃ u : Nat, Lib.parseUintB B s.data.toList = .ok u ∧ n = u ∧ ev = .nilIface) ∨ ((numAt B s = (n, false)) ∧ ∃ t p, ev = .iface t p))) :
    Calls Tryd.prog 29 #[.string s, .int .i64 B] w fun e w' => e = .returned (.tuple #[.int .u64 (numAt B s).1, .bool (numAt B s).2]) ∧ Below w.heap.size w w' := by
  have e1 : ∀ W : World, Sem.run Tryd.prog (eqGuard BinOp.eql 79 (Operand.tmp 15) (Operand.const Value.nilIface) Value.nilIface Value.nilIface) W = Result.ok () W := fun W => rfl
  have e2 : ∀ W : World, Sem.run Tryd.prog (binOp BinOp.eql 79 Value.nilIface Value.nilIface) W = Result.ok (.bool true) W := fun W => by kernel_rfl
  have e3 : ∀ (t : TypeId) (p : Value) (W : World), Sem.run Tryd.prog (eqGuard BinOp.eql 79 (Operand.tmp 15) (Operand.const Value.nilIface) (Value.iface t p) Value.nilIface) W = Result.ok () W := fun t p W => by rfl
  have e4 : ∀ (t : TypeId) (p : Value) (W : World), Sem.run Tryd.prog (binOp BinOp.eql 79 (Value.iface t p) Value.nilIface) W = Result.ok (.bool false) W := fun t p W => by kernel_rfl
  have E1 := Aside0.mk e1
  have E2 := Aside0.mk e2
  have E3 := Aside0.mk e3
  have E4 := Aside0.mk e4
  clear e1 e2 e3 e4
  obtain ⟨rn, rb, hN⟩ : ∃ rn rb, numAt B s = (rn, rb) := ⟨_, _, rfl⟩
  rw [hN] at hc ⊢
  go_enter Tryd.func29, Tryd.ntmps29
  go_wp2_with (go_at_call 43; refine hc.mono ?_; rintro e w1 ⟨n, ev, rfl, hb, hcase⟩)
  rcases hcase with ⟨u, hp, rfl, rfl⟩ | ⟨hn, t, p, rfl⟩
  · have hu : u ≤ 2 ^ B - 1 := Lib.parseUintB_le hp
    have hu2 : u < 18446744073709551616 := by rcases hB with rfl | rfl <;> omega
    have hnum : numAt B s = ((u : Int), Lib.decDigits u == s.toList) := by unfold numAt; rw [hp]
    have hf := Lb.FormatUint u hu2 w1 (hG.on hb).here.pow
    rw [hN] at hnum
    obtain ⟨rfl, rfl⟩ := Prod.mk.inj hnum
    have HX := Aside0.mk hN
    clear hp hnum hc hG hN
    rw [E1.out]; simp only [Result.andThen]; rw [E2.out]; simp only [Result.andThen]; rw [Oper.upon_value]
    go_wp2_with (go_at_call 37; refine hf.mono ?_; rintro e w2 ⟨rfl, k, os, rfl⟩)
    go_ret2
    exact ⟨rfl, hb.trans ((Lib.below_grow _ w1 (Nat.le_refl _) k os).mono hb.size)⟩
  · obtain ⟨rfl, rfl⟩ := Prod.mk.inj hn
    clear hc hG hn
    rw [E3.out]; simp only [Result.andThen]; rw [E4.out]; simp only [Result.andThen]; rw [Oper.upon_value]
    go_wp2
    go_ret2
    exact ⟨rfl, hb⟩

theorem asm_number.calls (a0 : ByteArray) (a1 : Int) (r1 : Int) (r2 : Bool) (w : World) (hG : GlobW w) (h : asm_number.f a0 a1 = some (r1, r2)) :
    Calls Tryd.prog 29 #[.string a0, .int .i64 a1] w fun e w' => e = .returned (.tuple #[.int .u64 r1, .bool r2]) ∧ Below w.heap.size w w' := by
  unfold asm_number.f at h
  split at h
  · rename_i hs
    split at h
    · rename_i h1
      subst h1
      have h2 := Option.some.inj h
      have hc := number_core 32 (.inl rfl) a0 w hG (ParseUint32 a0 hs w hG)
      rw [h2] at hc
      exact hc
    · split at h
      · rename_i h1
        subst h1
        have h2 := Option.some.inj h
        have hc := number_core 8 (.inr rfl) a0 w hG (ParseUint8 a0 hs w hG)
        rw [h2] at hc
        exact hc
      · cases h
  · cases h
end Go.Proofs.YtnagbdcpmbjnpaaDoor.Pr
