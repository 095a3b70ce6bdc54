/-
  DERIVED: THE SHELF's CONTRACTS AT THIS DUMP, IN PLAIN WORDS (tools/lay-plain.mjs out of 'TrydShelf.lean', which tools/lay-shelf.mjs wrote): THE SAME DECLARATIONS UNDER THE SAME NAMES: 'import', 'namespace', 'open', 'def', 'theorem' AND NOTHING ELSE: no command of the shelf's: FOR A HAND-IN. Each laying: the table of numbers ('.._ren') and one theorem, a field a fact of the dump's own or the kernel's comparison; each contract: ONE APPLICATION.
-/
import Derived.Shelf.Lays
import Derived.Shelf.LaysM
import Derived.Shelf.Pu.ErrVarParseUint
import Derived.Shelf.Pu.Lays
import Derived.Shelf.Pu.ParseUintPublic10
import Derived.Shelf.Strconv.Itoa1
import Derived.Shelf.Strconv.Itoa2
import Derived.Ground.MpProg
import Derived.Test.YtpgjcjgmokfofaaDoorProg
namespace Go.Proofs
open Go.Shelf
def Tryd.lays283_ren : Go.Shelf.Ren := ⟨fun | 283 => 64 | n => n, fun | 3 => 3 | 9 => 9 | 4 => 4 | n => n, fun | n => n⟩
theorem Tryd.lays283 : Go.Proofs.Lays.n283 Tryd.prog Tryd.lays283_ren := {
  mixed := by kernel_rfl
  f283 := Tryd.func64.trans (congrArg some (by kernel_rfl))
  t3 := Tryd.underlying3
  a3 := Tryd.isAgg3
  z3 := Tryd.sizeOf3
  v3 := Tryd.zeroValue3
  t4 := Tryd.underlying4
  a4 := Tryd.isAgg4
  z4 := Tryd.sizeOf4
  v4 := Tryd.zeroValue4
  t9 := Tryd.underlying9
  a9 := Tryd.isAgg9
  z9 := Tryd.sizeOf9
  v9 := Tryd.zeroValue9 }
open Go.Lib in
/-- internal/strconv.small: "small returns the string for an i with 0 <= i < nSmalls.": i's decimal numeral. The world is as it was. (LAID: no walk: one application.) -/
theorem Tryd.internal_strconv_small (i : Nat) (h : i < 100) (w : World) :
    Calls Tryd.prog 64 #[.int .i64 i] w fun e w' => e = .returned (.string ⟨(Lib.decDigits i).toArray⟩) ∧ w' = w := Any.internal_strconv_small Tryd.lays283 i h w
def Tryd.laysM284_ren : Go.Shelf.Ren := ⟨fun | 284 => 65 | 129 => 50 | 317 => 72 | 318 => 73 | n => n, fun | 53 => 49 | 3 => 3 | 212 => 99 | 0 => 0 | 4 => 4 | 46 => 59 | 5 => 5 | 9 => 9 | n => n, fun | 17 => 2 | n => n⟩
theorem Tryd.laysM284 : Go.Proofs.LaysM.n284 Tryd.prog Tryd.laysM284_ren := {
  mixed := by kernel_rfl
  f129 := Tryd.func50.trans (congrArg some (by kernel_rfl))
  f284 := Tryd.func65.trans (congrArg some (by kernel_rfl))
  f317 := Tryd.func72.trans (congrArg some (by kernel_rfl))
  f318 := Tryd.func73.trans (congrArg some (by kernel_rfl))
  t0 := Tryd.underlying0
  a0 := Tryd.isAgg0
  z0 := Tryd.sizeOf0
  v0 := Tryd.zeroValue0
  t3 := Tryd.underlying3
  a3 := Tryd.isAgg3
  z3 := Tryd.sizeOf3
  v3 := Tryd.zeroValue3
  t4 := Tryd.underlying4
  a4 := Tryd.isAgg4
  z4 := Tryd.sizeOf4
  v4 := Tryd.zeroValue4
  t5 := Tryd.underlying5
  a5 := Tryd.isAgg5
  z5 := Tryd.sizeOf5
  v5 := Tryd.zeroValue5
  t9 := Tryd.underlying9
  a9 := Tryd.isAgg9
  z9 := Tryd.sizeOf9
  v9 := Tryd.zeroValue9
  t46 := Tryd.underlying59
  a46 := Tryd.isAgg59
  z46 := Tryd.sizeOf59
  v46 := Tryd.zeroValue59
  t53 := Tryd.underlying49
  a53 := Tryd.isAgg49
  z53 := Tryd.sizeOf49
  v53 := Tryd.zeroValue49
  t212 := Tryd.underlying99
  a212 := Tryd.isAgg99
  z212 := Tryd.sizeOf99
  v212 := Tryd.zeroValue99
  g17 := by kernel_rfl
  i0 := by kernel_rfl
  i3 := by kernel_rfl
  i4 := by kernel_rfl
  i5 := by kernel_rfl
  i9 := by kernel_rfl
  i46 := by kernel_rfl
  i53 := by kernel_rfl
  i212 := by kernel_rfl
  m17 := by kernel_rfl }
open Go.Lib in
/-- internal/strconv.numDigits, at a d that is not 0: THE NUMBER OF d's DECIMAL DIGITS. The world is as it was. (LAID: no walk: one application.) -/
theorem Tryd.internal_strconv_numDigits (u : Nat) (h1 : 1 ≤ u) (h2 : u < 18446744073709551616) (w : World) (htab : Lib.TabIs Tryd.prog w "internal/strconv.uint64pow10" .u64 Lib.pow10Tab) :
    Calls Tryd.prog 65 #[.int .u64 u] w fun e w' => e = .returned (.int .i64 (Lib.nDigits u)) ∧ w' = w := Any.internal_strconv_numDigits Tryd.laysM284 u h1 h2 w htab
def Tryd.lays285_ren : Go.Shelf.Ren := ⟨fun | 285 => 66 | n => n, fun | 37 => 54 | 53 => 49 | 3 => 3 | 4 => 4 | 51 => 22 | 9 => 9 | 5 => 5 | 0 => 0 | n => n, fun | n => n⟩
theorem Tryd.lays285 : Go.Proofs.Lays.n285 Tryd.prog Tryd.lays285_ren := {
  mixed := by kernel_rfl
  f285 := Tryd.func66.trans (congrArg some (by kernel_rfl))
  t0 := Tryd.underlying0
  a0 := Tryd.isAgg0
  z0 := Tryd.sizeOf0
  v0 := Tryd.zeroValue0
  t3 := Tryd.underlying3
  a3 := Tryd.isAgg3
  z3 := Tryd.sizeOf3
  v3 := Tryd.zeroValue3
  t4 := Tryd.underlying4
  a4 := Tryd.isAgg4
  z4 := Tryd.sizeOf4
  v4 := Tryd.zeroValue4
  t5 := Tryd.underlying5
  a5 := Tryd.isAgg5
  z5 := Tryd.sizeOf5
  v5 := Tryd.zeroValue5
  t9 := Tryd.underlying9
  a9 := Tryd.isAgg9
  z9 := Tryd.sizeOf9
  v9 := Tryd.zeroValue9
  t37 := Tryd.underlying54
  a37 := Tryd.isAgg54
  z37 := Tryd.sizeOf54
  v37 := Tryd.zeroValue54
  t51 := Tryd.underlying22
  a51 := Tryd.isAgg22
  z51 := Tryd.sizeOf22
  v51 := Tryd.zeroValue22
  t53 := Tryd.underlying49
  a53 := Tryd.isAgg49
  z53 := Tryd.sizeOf49
  v53 := Tryd.zeroValue49 }
open Go.RowKit Go.Sort Go.Lib in
/-- internal/strconv.formatBase10: "formatBase10 formats the decimal representation of u into a. The caller is responsible for ensuring that a is big enough to hold u. If a is too big, leading zeros will be filled in as needed.": THE ROW HOLDS u's DIGITS ('FmtInv .. 0 ..': every place t holds 'dg u (len - 1 - t)'); all else is as it was but for the count of draws. (LAID: no walk: one application.) -/
theorem Tryd.internal_strconv_formatBase10 (blk off cap : Nat) (u : Nat) (d : Array UInt8) (w : World) (hH : Holds (fun (b : UInt8) => Value.int .u8 (b.toNat : Int)) w blk off d) (hu : u < 10 ^ d.size) (hu64 : u < 18446744073709551616) (hsz : d.size < 4611686018427387904) :
    Calls Tryd.prog 66 #[.slice (some ⟨blk, off, none⟩) d.size cap, .int .u64 u] w fun e w' =>
      e = .returned (.tuple #[]) ∧ ∃ (n v' : Nat) (dk : Array UInt8), w' = (putRow (fun (b : UInt8) => Value.int .u8 (b.toNat : Int)) w blk off dk).drewN n ∧ FmtInv d.size u 0 v' dk := Any.internal_strconv_formatBase10 Tryd.lays285 blk off cap u d w hH hu hu64 hsz
def Tryd.laysPu14_ren : Go.Shelf.Ren := ⟨fun | 14 => 30 | 16 => 38 | 17 => 39 | 19 => 52 | 20 => 53 | 21 => 54 | 22 => 55 | 23 => 56 | 24 => 57 | 25 => 68 | 27 => 70 | 26 => 69 | 28 => 76 | 29 => 79 | 30 => 64 | 31 => 65 | 32 => 66 | 33 => 67 | 35 => 50 | 34 => 72 | 36 => 73 | 37 => 74 | 38 => 75 | 39 => 77 | 40 => 78 | n => n, fun | 9 => 9 | 3 => 3 | 22 => 49 | 24 => 51 | 25 => 52 | 4 => 4 | 34 => 72 | 5 => 5 | 36 => 59 | 37 => 54 | 0 => 0 | 39 => 75 | 21 => 21 | 44 => 92 | 47 => 102 | 50 => 105 | 48 => 103 | 2 => 2 | 52 => 86 | 55 => 88 | 59 => 99 | 60 => 22 | 20 => 20 | 61 => 100 | 65 => 107 | 66 => 108 | 67 => 109 | n => n, fun | 0 => 0 | 1 => 1 | 2 => 2 | 3 => 3 | 4 => 4 | n => n⟩
theorem Tryd.laysPu14 : Go.Proofs.LaysPu.n14 Tryd.prog Tryd.laysPu14_ren := {
  mixed := by kernel_rfl
  f14 := Tryd.func30.trans (congrArg some (by kernel_rfl))
  f16 := Tryd.func38.trans (congrArg some (by kernel_rfl))
  f17 := Tryd.func39.trans (congrArg some (by kernel_rfl))
  f19 := Tryd.func52.trans (congrArg some (by kernel_rfl))
  f20 := Tryd.func53.trans (congrArg some (by kernel_rfl))
  f21 := Tryd.func54.trans (congrArg some (by kernel_rfl))
  f22 := Tryd.func55.trans (congrArg some (by kernel_rfl))
  f23 := Tryd.func56.trans (congrArg some (by kernel_rfl))
  f24 := Tryd.func57.trans (congrArg some (by kernel_rfl))
  f25 := Tryd.func68.trans (congrArg some (by kernel_rfl))
  f26 := Tryd.func69.trans (congrArg some (by kernel_rfl))
  f27 := Tryd.func70.trans (congrArg some (by kernel_rfl))
  f28 := Tryd.func76.trans (congrArg some (by kernel_rfl))
  f29 := Tryd.func79.trans (congrArg some (by kernel_rfl))
  f30 := Tryd.func64.trans (congrArg some (by kernel_rfl))
  f31 := Tryd.func65.trans (congrArg some (by kernel_rfl))
  f32 := Tryd.func66.trans (congrArg some (by kernel_rfl))
  f33 := Tryd.func67.trans (congrArg some (by kernel_rfl))
  f34 := Tryd.func72.trans (congrArg some (by kernel_rfl))
  f35 := Tryd.func50.trans (congrArg some (by kernel_rfl))
  f36 := Tryd.func73.trans (congrArg some (by kernel_rfl))
  f37 := Tryd.func74.trans (congrArg some (by kernel_rfl))
  f38 := Tryd.func75.trans (congrArg some (by kernel_rfl))
  f39 := Tryd.func77.trans (congrArg some (by kernel_rfl))
  f40 := Tryd.func78.trans (congrArg some (by kernel_rfl))
  t0 := Tryd.underlying0
  a0 := Tryd.isAgg0
  z0 := Tryd.sizeOf0
  v0 := Tryd.zeroValue0
  i0 := by kernel_rfl
  t2 := Tryd.underlying2
  a2 := Tryd.isAgg2
  z2 := Tryd.sizeOf2
  v2 := Tryd.zeroValue2
  i2 := by kernel_rfl
  t3 := Tryd.underlying3
  a3 := Tryd.isAgg3
  z3 := Tryd.sizeOf3
  v3 := Tryd.zeroValue3
  i3 := by kernel_rfl
  t4 := Tryd.underlying4
  a4 := Tryd.isAgg4
  z4 := Tryd.sizeOf4
  v4 := Tryd.zeroValue4
  i4 := by kernel_rfl
  t5 := Tryd.underlying5
  a5 := Tryd.isAgg5
  z5 := Tryd.sizeOf5
  v5 := Tryd.zeroValue5
  i5 := by kernel_rfl
  t9 := Tryd.underlying9
  a9 := Tryd.isAgg9
  z9 := Tryd.sizeOf9
  v9 := Tryd.zeroValue9
  i9 := by kernel_rfl
  t20 := Tryd.underlying20
  a20 := Tryd.isAgg20
  z20 := Tryd.sizeOf20
  v20 := Tryd.zeroValue20
  i20 := by kernel_rfl
  t21 := Tryd.underlying21
  a21 := Tryd.isAgg21
  z21 := Tryd.sizeOf21
  v21 := Tryd.zeroValue21
  i21 := by kernel_rfl
  t22 := Tryd.underlying49
  a22 := Tryd.isAgg49
  z22 := Tryd.sizeOf49
  v22 := Tryd.zeroValue49
  i22 := by kernel_rfl
  t24 := Tryd.underlying51
  a24 := Tryd.isAgg51
  z24 := Tryd.sizeOf51
  v24 := Tryd.zeroValue51
  i24 := by kernel_rfl
  t25 := Tryd.underlying52
  a25 := Tryd.isAgg52
  z25 := Tryd.sizeOf52
  v25 := Tryd.zeroValue52
  i25 := by kernel_rfl
  t34 := Tryd.underlying72
  a34 := Tryd.isAgg72
  z34 := Tryd.sizeOf72
  v34 := Tryd.zeroValue72
  i34 := by kernel_rfl
  c34 := by kernel_rfl
  t36 := Tryd.underlying59
  a36 := Tryd.isAgg59
  z36 := Tryd.sizeOf59
  v36 := Tryd.zeroValue59
  i36 := by kernel_rfl
  t37 := Tryd.underlying54
  a37 := Tryd.isAgg54
  z37 := Tryd.sizeOf54
  v37 := Tryd.zeroValue54
  i37 := by kernel_rfl
  t39 := Tryd.underlying75
  a39 := Tryd.isAgg75
  z39 := Tryd.sizeOf75
  v39 := Tryd.zeroValue75
  i39 := by kernel_rfl
  t44 := Tryd.underlying92
  a44 := Tryd.isAgg92
  z44 := Tryd.sizeOf92
  v44 := Tryd.zeroValue92
  i44 := by kernel_rfl
  t47 := Tryd.underlying102
  a47 := Tryd.isAgg102
  z47 := Tryd.sizeOf102
  v47 := Tryd.zeroValue102
  i47 := by kernel_rfl
  t48 := Tryd.underlying103
  a48 := Tryd.isAgg103
  z48 := Tryd.sizeOf103
  v48 := Tryd.zeroValue103
  i48 := by kernel_rfl
  t50 := Tryd.underlying105
  a50 := Tryd.isAgg105
  z50 := Tryd.sizeOf105
  v50 := Tryd.zeroValue105
  i50 := by kernel_rfl
  t52 := Tryd.underlying86
  a52 := Tryd.isAgg86
  z52 := Tryd.sizeOf86
  v52 := Tryd.zeroValue86
  i52 := by kernel_rfl
  t55 := Tryd.underlying88
  a55 := Tryd.isAgg88
  z55 := Tryd.sizeOf88
  v55 := Tryd.zeroValue88
  i55 := by kernel_rfl
  t59 := Tryd.underlying99
  a59 := Tryd.isAgg99
  z59 := Tryd.sizeOf99
  v59 := Tryd.zeroValue99
  i59 := by kernel_rfl
  t60 := Tryd.underlying22
  a60 := Tryd.isAgg22
  z60 := Tryd.sizeOf22
  v60 := Tryd.zeroValue22
  i60 := by kernel_rfl
  t61 := Tryd.underlying100
  a61 := Tryd.isAgg100
  z61 := Tryd.sizeOf100
  t65 := Tryd.underlying107
  a65 := Tryd.isAgg107
  z65 := Tryd.sizeOf107
  v65 := Tryd.zeroValue107
  i65 := by kernel_rfl
  t66 := Tryd.underlying108
  a66 := Tryd.isAgg108
  z66 := Tryd.sizeOf108
  v66 := Tryd.zeroValue108
  i66 := by kernel_rfl
  t67 := Tryd.underlying109
  a67 := Tryd.isAgg109
  z67 := Tryd.sizeOf109
  v67 := Tryd.zeroValue109
  i67 := by kernel_rfl
  g0 := by kernel_rfl
  m0 := by kernel_rfl
  g1 := by kernel_rfl
  m1 := by kernel_rfl
  g2 := by kernel_rfl
  m2 := by kernel_rfl
  g3 := by kernel_rfl
  m3 := by kernel_rfl
  g4 := by kernel_rfl
  m4 := by kernel_rfl }
open Go.RowKit in
/-- strconv.ParseUint(s, 10, 32), AT EVERY STRING THAT SPELLS A uint32 ('Lib.parseUintB 32 s.data.toList = .ok u'): u, AND NO ERROR. (LAID: no walk: one application.) -/
theorem Tryd.strconv_ParseUint_10_at32_ok (s : ByteArray) (hmax : s.size ≤ 9223372036854775806) (u : Nat) (h : Lib.parseUintB 32 s.data.toList = .ok u) (w : World) :
    Calls Tryd.prog 30 #[.string s, .int .i64 10, .int .i64 32] w fun e w' => e = .returned (.tuple #[.int .u64 u, .nilIface]) ∧ (w' = w ∨ w' = Lib.bytesWorld w 5 s) := Any.strconv_ParseUint_10_at32_ok Tryd.laysPu14 s hmax u h w
open Go.RowKit in
theorem Tryd.strconv_ParseUint_10_at32_syntax_var (s : ByteArray) (hlim : s.size ≤ 281474976710656) (h : Lib.parseUintB 32 s.data.toList = .«syntax») (tp : TypeId) (p : Value) (w : World) (hvar : w.var? Tryd.prog "strconv.ErrSyntax" = some #[.iface tp p]) :
    Calls Tryd.prog 30 #[.string s, .int .i64 10, .int .i64 32] w fun e w' => ∃ N, e = .returned (.tuple #[.int .u64 0, .iface 75 (.pointer (some ⟨N, 0, none⟩))]) ∧ w.heap.size ≤ N ∧ w'.heap[N]? = some (.cells #[.string ⟨#[80, 97, 114, 115, 101, 85, 105, 110, 116]⟩, .string s, .iface tp p] 92 (0, 0)) ∧ Below w.heap.size w w' := Any.strconv_ParseUint_10_at32_syntax_var Tryd.laysPu14 s hlim h tp p w hvar
open Go.RowKit in
theorem Tryd.strconv_ParseUint_10_at32_range_var (s : ByteArray) (hlim : s.size ≤ 281474976710656) (h : Lib.parseUintB 32 s.data.toList = .range) (tp : TypeId) (p : Value) (w : World) (hvar : w.var? Tryd.prog "strconv.ErrRange" = some #[.iface tp p]) :
    Calls Tryd.prog 30 #[.string s, .int .i64 10, .int .i64 32] w fun e w' => ∃ N, e = .returned (.tuple #[.int .u64 4294967295, .iface 75 (.pointer (some ⟨N, 0, none⟩))]) ∧ w.heap.size ≤ N ∧ w'.heap[N]? = some (.cells #[.string ⟨#[80, 97, 114, 115, 101, 85, 105, 110, 116]⟩, .string s, .iface tp p] 92 (0, 0)) ∧ Below w.heap.size w w' := Any.strconv_ParseUint_10_at32_range_var Tryd.laysPu14 s hlim h tp p w hvar
end Go.Proofs
