-- Made by a program of this session (wip/tools/myprint.sh).
import Derived.Test.YtjgapcidhoecfaaPr0
import Derived.Test.YtjgapcidhoecfaaFEqA39
import Derived.Test.YtjgapcidhoecfaaFInstrClass
import Derived.Test.YtjgapcidhoecfaaFInstrFromX
import Derived.Test.YtjgapcidhoecfaaFInstrOne
import Derived.Test.YtjgapcidhoecfaaFInstrOp
import Derived.Test.YtjgapcidhoecfaaFInstrRead
import Derived.Test.YtjgapcidhoecfaaFInstrSame
import Derived.Test.YtjgapcidhoecfaaGInstrPrint
namespace Go.Proofs.Ytjgapcidhoecfaa.Pr
open Go.RowKit Go.Proofs.YtjgapcidhoecfaaW.PrintWords Go.Proofs.YtjgapcidhoecfaaW.PrintLast Go.Proofs.YtjgapcidhoecfaaW.PrintMore
attribute [local go_sem] max2_int min2_int max_two min_two max_three min_three max_four min_four   -- for this text's walks alone
set_option linter.unusedVariables false
set_option linter.unusedSimpArgs false

attribute [local go_sem high] eqA39
/-! ### tamislaw02_awake: function 8 -/
def tamislaw02_awake.f (k : Nat)  : Option (Bool) := (instr_One.f k 277 2 3 67305985).bind fun t123 => (if t123.size + t123.size ≤ 9223372036854775807 then ((instr_Read.f k (t123 ++ t123)).bind fun bt124 => (if t123.size + 1 ≤ 9223372036854775807 then ((instr_Read.f k (t123 ++ (⟨#[120]⟩ : ByteArray))).bind fun bt128 => ((instr_Print.f ([] : List (S39))).bind fun bt132 => (if 4097 ≤ 35184372088832 then ((instr_Print.f (List.replicate 4097 z39)).bind fun bt137 => ((instr_Print.f bt124.1).bind fun bt139 => (if t123.toList = ([21, 1, 2, 3, 1, 2, 3, 4] : List UInt8) then (if (bt124.1.length : Int) = 2 then (if 1 < (bt124.1.length : Int) then (if (((rd_T39 bt124.1 1).f0) == 277 && (((rd_T39 bt124.1 1).f1) == 2 && (((rd_T39 bt124.1 1).f2) == 3 && (((rd_T39 bt124.1 1).f3) == 67305985)))) = true then (if bt124.2 = 0 then (if bt128.2 = 4 then (if bt132.2 = 4 then (if bt137.2 = 5 then (if bt139.1.toList = (t123 ++ t123).toList then (if bt139.2 = 0 then ((instr_Class.f 277 2 3 67305985).bind fun t142 => (if t142 = 5 then ((instr_Op.f 277 2 3 67305985).bind fun t143 => (if t143 = 16 then ((instr_FromX.f 277 2 3 67305985).bind fun t144 => (if t144 = true then (some false) else ((instr_Same.f k bt124.1 (([(⟨277, 2, 3, 67305985⟩ : S39), (⟨277, 2, 3, 67305985⟩ : S39)] : List (S39)))).bind fun t148 => (some t148)))) else (some false))) else (some false))) else (some false)) else (some false)) else (some false)) else (some false)) else (some false)) else (some false)) else (some false)) else (none)) else (some false)) else (some false)))) else (none)))) else (none))) else (none))
theorem tamislaw02_awake.mono : ∀ k, LeO (tamislaw02_awake.f k ) (tamislaw02_awake.f (k + 1) ) := by
  intro  k
  unfold tamislaw02_awake.f
  repeat' first
      | (with_reducible exact instr_One.mono _ _ _ _ _)
      | (with_reducible exact instr_Read.mono _ _)
      | (with_reducible exact instr_Same.mono _ _ _)
      | (with_reducible exact LeO.refl _)
      | (with_reducible exact LeO.none _)
      | (with_reducible refine LeO.ite ?_ ?_)
      | (with_reducible refine LeO.bind ?_ (fun _ => ?_))
      | exact instr_One.mono _ _ _ _ _
      | exact instr_Read.mono _ _
      | exact instr_Same.mono _ _ _
      | exact LeO.none _
      | refine LeO.ite ?_ ?_
      | refine LeO.bind ?_ (fun _ => ?_)
def tamislaw02_awake.T8 : Bool × List (List Nat × List Nat) := (true, [([], []), ([0], [0]), ([1], [1]), ([2], [2]), ([3, 2], [2, 3]), ([4, 2], [2, 4]), ([2, 5], [2, 5]), ([6, 2], [6]), ([7], [7]), ([8, 7], [7, 8]), ([9, 7], [7, 9]), ([7], [7]), ([10, 11, 7], [7, 10, 11]), ([7, 12], [7, 12]), ([13, 7], [13]), ([14], [14]), ([15, 14], [14, 15]), ([14, 16], [14, 16]), ([17, 14], [17]), ([18], [18]), ([19, 18], [18, 19]), ([18, 20], [18, 20]), ([21, 18], [21]), ([22], [22]), ([23, 22], [22, 23]), ([22, 24], [22, 24]), ([25, 22], [25]), ([26], [26]), ([27, 26], [26, 27]), ([26, 28], [26, 28]), ([29, 26], [29]), ([30], [30]), ([30], [30]), ([30], [30]), ([32, 33, 30], [30, 32, 33]), ([31, 34, 30], [30, 31, 34]), ([30, 35], [30, 35]), ([36, 30], [36]), ([37], [37]), ([38, 37], [37, 38]), ([37, 39], [37, 39]), ([40, 37], [40]), ([41], [41]), ([42, 41, 41], [41, 42]), ([43, 41], [41, 43]), ([41, 44], [41, 44]), ([45, 43], [45]), ([46], [46]), ([47, 46, 46], [46, 47]), ([48, 46], [46, 48]), ([46, 49], [46, 49]), ([50, 48], [50]), ([51], [51]), ([52, 51, 51], [51, 52]), ([53, 51], [51, 53]), ([51, 54], [51, 54]), ([55, 53], [55]), ([56], [56]), ([56], [56]), ([56], [56]), ([58, 59, 56], [56, 58, 59]), ([57, 60, 56, 56], [56, 57, 60]), ([56, 61], [56, 61]), ([62, 61, 0, 1, 2, 3, 4, 5, 6, 7, 8, 9, 10, 11, 12, 13, 14, 15, 16, 17, 18, 19, 20, 21, 22, 23, 24, 25, 26, 27, 28, 29, 30, 31, 32, 33, 34, 35, 36, 37, 38, 39, 40, 41, 42, 43, 44, 45, 46, 47, 48, 49, 50, 51, 52, 53, 54, 55, 56, 57, 58, 59, 60, 61, 62], [62])])
def tamislaw02_awake.B8 : List Nat := [0, 1, 3, 7, 15, 31, 63, 127, 255, 511, 1023, 255, 4095, 8191, 16383, 32767, 65535, 131071, 262143, 524287, 1048575, 2097151, 4194303, 8388607, 16777215, 33554431, 67108863, 134217727, 268435455, 536870911, 1073741823, 2147483647, 2147483647, 2147483647, 15032385535, 34359738367, 68719476735, 137438953471, 274877906943, 549755813887, 1099511627775, 2199023255551, 4398046511103, 8796093022207, 17592186044415, 35184372088831, 70368744177663, 140737488355327, 281474976710655, 562949953421311, 1125899906842623, 2251799813685247, 4503599627370495, 9007199254740991, 18014398509481983, 36028797018963967, 72057594037927935, 144115188075855871, 144115188075855871, 144115188075855871, 1008806316530991103, 2305843009213693951, 4611686018427387903, 9223372036854775807]
theorem tamislaw02_awake.tab8 : rtab .any (opsOf Try.f8 8) = tamislaw02_awake.T8 := by kernel_rfl
theorem tamislaw02_awake.bits8 : waitsOk tamislaw02_awake.T8.2 tamislaw02_awake.B8 = true := by kernel_rfl
set_option maxHeartbeats 8000000 in
set_option maxRecDepth 100000 in
theorem tamislaw02_awake.calls (k : Nat)  (r : Bool) (w : World) (hT : r = true) (h : tamislaw02_awake.f k  = some r) :
    Calls Try.prog 8 #[] w fun e w' => e = .returned (.bool r) ∧ Below w.heap.size w w' := by
  have hu39 := Try.underlying39
  have HT := Aside0.mk hT
  clear hT
  have HB := Aside0.mk (Below.refl w.heap.size w)
  have H : ((instr_One.f k 277 2 3 67305985).bind fun t123 => (if t123.size + t123.size ≤ 9223372036854775807 then ((instr_Read.f k (t123 ++ t123)).bind fun bt124 => (if t123.size + 1 ≤ 9223372036854775807 then ((instr_Read.f k (t123 ++ (⟨#[120]⟩ : ByteArray))).bind fun bt128 => ((instr_Print.f ([] : List (S39))).bind fun bt132 => (if 4097 ≤ 35184372088832 then ((instr_Print.f (List.replicate 4097 z39)).bind fun bt137 => ((instr_Print.f bt124.1).bind fun bt139 => (if t123.toList = ([21, 1, 2, 3, 1, 2, 3, 4] : List UInt8) then (if (bt124.1.length : Int) = 2 then (if 1 < (bt124.1.length : Int) then (if (((rd_T39 bt124.1 1).f0) == 277 && (((rd_T39 bt124.1 1).f1) == 2 && (((rd_T39 bt124.1 1).f2) == 3 && (((rd_T39 bt124.1 1).f3) == 67305985)))) = true then (if bt124.2 = 0 then (if bt128.2 = 4 then (if bt132.2 = 4 then (if bt137.2 = 5 then (if bt139.1.toList = (t123 ++ t123).toList then (if bt139.2 = 0 then ((instr_Class.f 277 2 3 67305985).bind fun t142 => (if t142 = 5 then ((instr_Op.f 277 2 3 67305985).bind fun t143 => (if t143 = 16 then ((instr_FromX.f 277 2 3 67305985).bind fun t144 => (if t144 = true then (some false) else ((instr_Same.f k bt124.1 (([(⟨277, 2, 3, 67305985⟩ : S39), (⟨277, 2, 3, 67305985⟩ : S39)] : List (S39)))).bind fun t148 => (some t148)))) else (some false))) else (some false))) else (some false)) else (some false)) else (some false)) else (some false)) else (some false)) else (some false)) else (some false)) else (none)) else (some false)) else (some false)))) else (none)))) else (none))) else (none))) = some r := h
  clear h
  replace H := Option.bind_eq_some_iff.mp H
  obtain ⟨t123, A10, H⟩ := H
  replace H : (if t123.size + t123.size ≤ 9223372036854775807 then ((instr_Read.f k (t123 ++ t123)).bind fun bt124 => (if t123.size + 1 ≤ 9223372036854775807 then ((instr_Read.f k (t123 ++ (⟨#[120]⟩ : ByteArray))).bind fun bt128 => ((instr_Print.f ([] : List (S39))).bind fun bt132 => (if 4097 ≤ 35184372088832 then ((instr_Print.f (List.replicate 4097 z39)).bind fun bt137 => ((instr_Print.f bt124.1).bind fun bt139 => (if t123.toList = ([21, 1, 2, 3, 1, 2, 3, 4] : List UInt8) then (if (bt124.1.length : Int) = 2 then (if 1 < (bt124.1.length : Int) then (if (((rd_T39 bt124.1 1).f0) == 277 && (((rd_T39 bt124.1 1).f1) == 2 && (((rd_T39 bt124.1 1).f2) == 3 && (((rd_T39 bt124.1 1).f3) == 67305985)))) = true then (if bt124.2 = 0 then (if bt128.2 = 4 then (if bt132.2 = 4 then (if bt137.2 = 5 then (if bt139.1.toList = (t123 ++ t123).toList then (if bt139.2 = 0 then ((instr_Class.f 277 2 3 67305985).bind fun t142 => (if t142 = 5 then ((instr_Op.f 277 2 3 67305985).bind fun t143 => (if t143 = 16 then ((instr_FromX.f 277 2 3 67305985).bind fun t144 => (if t144 = true then (some false) else ((instr_Same.f k bt124.1 (([(⟨277, 2, 3, 67305985⟩ : S39), (⟨277, 2, 3, 67305985⟩ : S39)] : List (S39)))).bind fun t148 => (some t148)))) else (some false))) else (some false))) else (some false)) else (some false)) else (some false)) else (some false)) else (some false)) else (some false)) else (some false)) else (none)) else (some false)) else (some false)))) else (none)))) else (none))) else (none)) = some r := H
  have A1 := Aside0.mk A10
  clear A10
  by_cases c2 : t123.size + t123.size ≤ 9223372036854775807
  · rw [if_pos c2] at H
    have c2b0 := eq_true c2
    have c2b1 : decide (t123.size + t123.size ≤ 9223372036854775807) = true := decide_eq_true c2
    try have c2b2 : (9223372036854775807 < t123.size + t123.size) = False := eq_false (Nat.not_lt.2 c2)
    replace H := Option.bind_eq_some_iff.mp H
    obtain ⟨⟨t124, t125⟩, A30, H⟩ := H
    replace H : (if t123.size + 1 ≤ 9223372036854775807 then ((instr_Read.f k (t123 ++ (⟨#[120]⟩ : ByteArray))).bind fun bt128 => ((instr_Print.f ([] : List (S39))).bind fun bt132 => (if 4097 ≤ 35184372088832 then ((instr_Print.f (List.replicate 4097 z39)).bind fun bt137 => ((instr_Print.f t124).bind fun bt139 => (if t123.toList = ([21, 1, 2, 3, 1, 2, 3, 4] : List UInt8) then (if (t124.length : Int) = 2 then (if 1 < (t124.length : Int) then (if (((rd_T39 t124 1).f0) == 277 && (((rd_T39 t124 1).f1) == 2 && (((rd_T39 t124 1).f2) == 3 && (((rd_T39 t124 1).f3) == 67305985)))) = true then (if t125 = 0 then (if bt128.2 = 4 then (if bt132.2 = 4 then (if bt137.2 = 5 then (if bt139.1.toList = (t123 ++ t123).toList then (if bt139.2 = 0 then ((instr_Class.f 277 2 3 67305985).bind fun t142 => (if t142 = 5 then ((instr_Op.f 277 2 3 67305985).bind fun t143 => (if t143 = 16 then ((instr_FromX.f 277 2 3 67305985).bind fun t144 => (if t144 = true then (some false) else ((instr_Same.f k t124 (([(⟨277, 2, 3, 67305985⟩ : S39), (⟨277, 2, 3, 67305985⟩ : S39)] : List (S39)))).bind fun t148 => (some t148)))) else (some false))) else (some false))) else (some false)) else (some false)) else (some false)) else (some false)) else (some false)) else (some false)) else (some false)) else (none)) else (some false)) else (some false)))) else (none)))) else (none)) = some r := H
    have A3 := Aside0.mk A30
    clear A30
    by_cases c4 : t123.size + 1 ≤ 9223372036854775807
    · rw [if_pos c4] at H
      have c4b0 := eq_true c4
      have c4b1 : decide (t123.size + 1 ≤ 9223372036854775807) = true := decide_eq_true c4
      try have c4b2 : (9223372036854775807 < t123.size + 1) = False := eq_false (Nat.not_lt.2 c4)
      replace H := Option.bind_eq_some_iff.mp H
      obtain ⟨⟨t128, t129⟩, A50, H⟩ := H
      replace H : ((instr_Print.f ([] : List (S39))).bind fun bt132 => (if 4097 ≤ 35184372088832 then ((instr_Print.f (List.replicate 4097 z39)).bind fun bt137 => ((instr_Print.f t124).bind fun bt139 => (if t123.toList = ([21, 1, 2, 3, 1, 2, 3, 4] : List UInt8) then (if (t124.length : Int) = 2 then (if 1 < (t124.length : Int) then (if (((rd_T39 t124 1).f0) == 277 && (((rd_T39 t124 1).f1) == 2 && (((rd_T39 t124 1).f2) == 3 && (((rd_T39 t124 1).f3) == 67305985)))) = true then (if t125 = 0 then (if t129 = 4 then (if bt132.2 = 4 then (if bt137.2 = 5 then (if bt139.1.toList = (t123 ++ t123).toList then (if bt139.2 = 0 then ((instr_Class.f 277 2 3 67305985).bind fun t142 => (if t142 = 5 then ((instr_Op.f 277 2 3 67305985).bind fun t143 => (if t143 = 16 then ((instr_FromX.f 277 2 3 67305985).bind fun t144 => (if t144 = true then (some false) else ((instr_Same.f k t124 (([(⟨277, 2, 3, 67305985⟩ : S39), (⟨277, 2, 3, 67305985⟩ : S39)] : List (S39)))).bind fun t148 => (some t148)))) else (some false))) else (some false))) else (some false)) else (some false)) else (some false)) else (some false)) else (some false)) else (some false)) else (some false)) else (none)) else (some false)) else (some false)))) else (none))) = some r := H
      have A5 := Aside0.mk A50
      clear A50
      replace H := Option.bind_eq_some_iff.mp H
      obtain ⟨⟨t132, t133⟩, A60, H⟩ := H
      replace H : (if 4097 ≤ 35184372088832 then ((instr_Print.f (List.replicate 4097 z39)).bind fun bt137 => ((instr_Print.f t124).bind fun bt139 => (if t123.toList = ([21, 1, 2, 3, 1, 2, 3, 4] : List UInt8) then (if (t124.length : Int) = 2 then (if 1 < (t124.length : Int) then (if (((rd_T39 t124 1).f0) == 277 && (((rd_T39 t124 1).f1) == 2 && (((rd_T39 t124 1).f2) == 3 && (((rd_T39 t124 1).f3) == 67305985)))) = true then (if t125 = 0 then (if t129 = 4 then (if t133 = 4 then (if bt137.2 = 5 then (if bt139.1.toList = (t123 ++ t123).toList then (if bt139.2 = 0 then ((instr_Class.f 277 2 3 67305985).bind fun t142 => (if t142 = 5 then ((instr_Op.f 277 2 3 67305985).bind fun t143 => (if t143 = 16 then ((instr_FromX.f 277 2 3 67305985).bind fun t144 => (if t144 = true then (some false) else ((instr_Same.f k t124 (([(⟨277, 2, 3, 67305985⟩ : S39), (⟨277, 2, 3, 67305985⟩ : S39)] : List (S39)))).bind fun t148 => (some t148)))) else (some false))) else (some false))) else (some false)) else (some false)) else (some false)) else (some false)) else (some false)) else (some false)) else (some false)) else (none)) else (some false)) else (some false)))) else (none)) = some r := H
      have A6 := Aside0.mk A60
      clear A60
      by_cases c7 : 4097 ≤ 35184372088832
      · rw [if_pos c7] at H
        have c7b0 := eq_true c7
        have c7b1 : decide (4097 ≤ 35184372088832) = true := decide_eq_true c7
        clear c7
        obtain ⟨y134, hy134⟩ : ∃ y_ : List (S39), y_ = (List.replicate 4097 z39) := ⟨_, rfl⟩
        replace H : ((instr_Print.f y134).bind fun bt137 => ((instr_Print.f t124).bind fun bt139 => (if t123.toList = ([21, 1, 2, 3, 1, 2, 3, 4] : List UInt8) then (if (t124.length : Int) = 2 then (if 1 < (t124.length : Int) then (if (((rd_T39 t124 1).f0) == 277 && (((rd_T39 t124 1).f1) == 2 && (((rd_T39 t124 1).f2) == 3 && (((rd_T39 t124 1).f3) == 67305985)))) = true then (if t125 = 0 then (if t129 = 4 then (if t133 = 4 then (if bt137.2 = 5 then (if bt139.1.toList = (t123 ++ t123).toList then (if bt139.2 = 0 then ((instr_Class.f 277 2 3 67305985).bind fun t142 => (if t142 = 5 then ((instr_Op.f 277 2 3 67305985).bind fun t143 => (if t143 = 16 then ((instr_FromX.f 277 2 3 67305985).bind fun t144 => (if t144 = true then (some false) else ((instr_Same.f k t124 (([(⟨277, 2, 3, 67305985⟩ : S39), (⟨277, 2, 3, 67305985⟩ : S39)] : List (S39)))).bind fun t148 => (some t148)))) else (some false))) else (some false))) else (some false)) else (some false)) else (some false)) else (some false)) else (some false)) else (some false)) else (some false)) else (none)) else (some false)) else (some false)))) = some r := by first | (rw [hy134]; with_reducible exact H) | (have H2_ := (Option.bind_some _ _).symm.trans H; rw [hy134]; with_reducible exact H2_) | (have H2_ := (Option.bind_some _ _).symm.trans H; with_reducible exact H2_) | with_reducible exact H | (rw [hy134]; exact H) | exact H
        have Ny134 := Aside0.mk hy134
        clear hy134
        replace H := Option.bind_eq_some_iff.mp H
        obtain ⟨⟨t137, t138⟩, A80, H⟩ := H
        replace H : ((instr_Print.f t124).bind fun bt139 => (if t123.toList = ([21, 1, 2, 3, 1, 2, 3, 4] : List UInt8) then (if (t124.length : Int) = 2 then (if 1 < (t124.length : Int) then (if (((rd_T39 t124 1).f0) == 277 && (((rd_T39 t124 1).f1) == 2 && (((rd_T39 t124 1).f2) == 3 && (((rd_T39 t124 1).f3) == 67305985)))) = true then (if t125 = 0 then (if t129 = 4 then (if t133 = 4 then (if t138 = 5 then (if bt139.1.toList = (t123 ++ t123).toList then (if bt139.2 = 0 then ((instr_Class.f 277 2 3 67305985).bind fun t142 => (if t142 = 5 then ((instr_Op.f 277 2 3 67305985).bind fun t143 => (if t143 = 16 then ((instr_FromX.f 277 2 3 67305985).bind fun t144 => (if t144 = true then (some false) else ((instr_Same.f k t124 (([(⟨277, 2, 3, 67305985⟩ : S39), (⟨277, 2, 3, 67305985⟩ : S39)] : List (S39)))).bind fun t148 => (some t148)))) else (some false))) else (some false))) else (some false)) else (some false)) else (some false)) else (some false)) else (some false)) else (some false)) else (some false)) else (none)) else (some false)) else (some false))) = some r := H
        have A8 := Aside0.mk A80
        clear A80
        replace H := Option.bind_eq_some_iff.mp H
        obtain ⟨⟨t139, t140⟩, A90, H⟩ := H
        replace H : (if t123.toList = ([21, 1, 2, 3, 1, 2, 3, 4] : List UInt8) then (if (t124.length : Int) = 2 then (if 1 < (t124.length : Int) then (if (((rd_T39 t124 1).f0) == 277 && (((rd_T39 t124 1).f1) == 2 && (((rd_T39 t124 1).f2) == 3 && (((rd_T39 t124 1).f3) == 67305985)))) = true then (if t125 = 0 then (if t129 = 4 then (if t133 = 4 then (if t138 = 5 then (if t139.toList = (t123 ++ t123).toList then (if t140 = 0 then ((instr_Class.f 277 2 3 67305985).bind fun t142 => (if t142 = 5 then ((instr_Op.f 277 2 3 67305985).bind fun t143 => (if t143 = 16 then ((instr_FromX.f 277 2 3 67305985).bind fun t144 => (if t144 = true then (some false) else ((instr_Same.f k t124 (([(⟨277, 2, 3, 67305985⟩ : S39), (⟨277, 2, 3, 67305985⟩ : S39)] : List (S39)))).bind fun t148 => (some t148)))) else (some false))) else (some false))) else (some false)) else (some false)) else (some false)) else (some false)) else (some false)) else (some false)) else (some false)) else (none)) else (some false)) else (some false)) = some r := H
        have A9 := Aside0.mk A90
        clear A90
        by_cases c10 : t123.toList = ([21, 1, 2, 3, 1, 2, 3, 4] : List UInt8)
        · rw [if_pos c10] at H
          have c10b0 : (t123.toList == ([21, 1, 2, 3, 1, 2, 3, 4] : List UInt8)) = true := beq_iff_eq.mpr c10
          have c10b1 : (t123.toList != ([21, 1, 2, 3, 1, 2, 3, 4] : List UInt8)) = false := bne_eq_false_iff_eq.mpr c10
          clear c10
          by_cases c11 : (t124.length : Int) = 2
          · rw [if_pos c11] at H
            have c11b0 : ((t124.length : Int) == 2) = true := beq_iff_eq.mpr c11
            have c11b1 : ((t124.length : Int) != 2) = false := bne_eq_false_iff_eq.mpr c11
            clear c11
            by_cases c12 : 1 < (t124.length : Int)
            · rw [if_pos c12] at H
              have c12b0 : decide (1 < (t124.length : Int)) = true := decide_eq_true c12
              have c12b1 : decide (1 < t124.length) = true := decide_eq_true (by omega)
              clear c12
              by_cases c13 : (((rd_T39 t124 1).f0) == 277 && (((rd_T39 t124 1).f1) == 2 && (((rd_T39 t124 1).f2) == 3 && (((rd_T39 t124 1).f3) == 67305985)))) = true
              · rw [if_pos c13] at H
                have c13b0 : (((rd_T39 t124 1).f0) == 277 && (((rd_T39 t124 1).f1) == 2 && (((rd_T39 t124 1).f2) == 3 && (((rd_T39 t124 1).f3) == 67305985)))) = true := c13
                (try (have c13b1 : decide (((rd_T39 t124 1).f0) = 277 && (((rd_T39 t124 1).f1) == 2 && (((rd_T39 t124 1).f2) == 3 && (((rd_T39 t124 1).f3) == 67305985)))) = true := by simpa using c13))
                (try (have c13b2 : (((rd_T39 t124 1).f0) == 277 && (((rd_T39 t124 1).f1) == 2 && (((rd_T39 t124 1).f2) == 3 && (((rd_T39 t124 1).f3) == 67305985)))) = true := by simpa using c13))
                clear c13
                by_cases c14 : t125 = 0
                · rw [if_pos c14] at H
                  have c14b0 : (t125 == 0) = true := beq_iff_eq.mpr c14
                  have c14b1 : (t125 != 0) = false := bne_eq_false_iff_eq.mpr c14
                  clear c14
                  by_cases c15 : t129 = 4
                  · rw [if_pos c15] at H
                    have c15b0 : (t129 == 4) = true := beq_iff_eq.mpr c15
                    have c15b1 : (t129 != 4) = false := bne_eq_false_iff_eq.mpr c15
                    clear c15
                    by_cases c16 : t133 = 4
                    · rw [if_pos c16] at H
                      have c16b0 : (t133 == 4) = true := beq_iff_eq.mpr c16
                      have c16b1 : (t133 != 4) = false := bne_eq_false_iff_eq.mpr c16
                      clear c16
                      by_cases c17 : t138 = 5
                      · rw [if_pos c17] at H
                        have c17b0 : (t138 == 5) = true := beq_iff_eq.mpr c17
                        have c17b1 : (t138 != 5) = false := bne_eq_false_iff_eq.mpr c17
                        clear c17
                        by_cases c18 : t139.toList = (t123 ++ t123).toList
                        · rw [if_pos c18] at H
                          have c18b0 : (t139.toList == (t123 ++ t123).toList) = true := beq_iff_eq.mpr c18
                          have c18b1 : (t139.toList != (t123 ++ t123).toList) = false := bne_eq_false_iff_eq.mpr c18
                          clear c18
                          by_cases c19 : t140 = 0
                          · rw [if_pos c19] at H
                            have c19b0 : (t140 == 0) = true := beq_iff_eq.mpr c19
                            have c19b1 : (t140 != 0) = false := bne_eq_false_iff_eq.mpr c19
                            clear c19
                            replace H := Option.bind_eq_some_iff.mp H
                            obtain ⟨t142, A200, H⟩ := H
                            replace H : (if t142 = 5 then ((instr_Op.f 277 2 3 67305985).bind fun t143 => (if t143 = 16 then ((instr_FromX.f 277 2 3 67305985).bind fun t144 => (if t144 = true then (some false) else ((instr_Same.f k t124 (([(⟨277, 2, 3, 67305985⟩ : S39), (⟨277, 2, 3, 67305985⟩ : S39)] : List (S39)))).bind fun t148 => (some t148)))) else (some false))) else (some false)) = some r := H
                            have A20 := Aside0.mk A200
                            clear A200
                            by_cases c21 : t142 = 5
                            · rw [if_pos c21] at H
                              have c21b0 : (t142 == 5) = true := beq_iff_eq.mpr c21
                              have c21b1 : (t142 != 5) = false := bne_eq_false_iff_eq.mpr c21
                              clear c21
                              replace H := Option.bind_eq_some_iff.mp H
                              obtain ⟨t143, A220, H⟩ := H
                              replace H : (if t143 = 16 then ((instr_FromX.f 277 2 3 67305985).bind fun t144 => (if t144 = true then (some false) else ((instr_Same.f k t124 (([(⟨277, 2, 3, 67305985⟩ : S39), (⟨277, 2, 3, 67305985⟩ : S39)] : List (S39)))).bind fun t148 => (some t148)))) else (some false)) = some r := H
                              have A22 := Aside0.mk A220
                              clear A220
                              by_cases c23 : t143 = 16
                              · rw [if_pos c23] at H
                                have c23b0 : (t143 == 16) = true := beq_iff_eq.mpr c23
                                have c23b1 : (t143 != 16) = false := bne_eq_false_iff_eq.mpr c23
                                clear c23
                                replace H := Option.bind_eq_some_iff.mp H
                                obtain ⟨t144, A240, H⟩ := H
                                replace H : (if t144 = true then (some false) else ((instr_Same.f k t124 (([(⟨277, 2, 3, 67305985⟩ : S39), (⟨277, 2, 3, 67305985⟩ : S39)] : List (S39)))).bind fun t148 => (some t148))) = some r := H
                                have A24 := Aside0.mk A240
                                clear A240
                                by_cases c25 : t144 = true
                                · subst c25
                                  have H1 : (some false) = some r := by rw [if_pos rfl] at H; exact H
                                  clear H
                                  have H := H1
                                  clear H1
                                  exact absurd ((Option.some.inj H).trans HT.out) (by simp)
                                · replace c25 := Bool.eq_false_iff.mpr c25
                                  subst c25
                                  have H1 : ((instr_Same.f k t124 (([(⟨277, 2, 3, 67305985⟩ : S39), (⟨277, 2, 3, 67305985⟩ : S39)] : List (S39)))).bind fun t148 => (some t148)) = some r := by rw [if_neg (show ¬ (false = true) by decide)] at H; exact H
                                  clear H
                                  have H := H1
                                  clear H1
                                  obtain ⟨y145, hy145⟩ : ∃ y_ : List (S39), y_ = (([(⟨277, 2, 3, 67305985⟩ : S39), (⟨277, 2, 3, 67305985⟩ : S39)] : List (S39))) := ⟨_, rfl⟩
                                  replace H : ((instr_Same.f k t124 y145).bind fun t148 => (some t148)) = some r := by first | (rw [hy145]; with_reducible exact H) | (have H2_ := (Option.bind_some _ _).symm.trans H; rw [hy145]; with_reducible exact H2_) | (have H2_ := (Option.bind_some _ _).symm.trans H; with_reducible exact H2_) | with_reducible exact H | (rw [hy145]; exact H) | exact H
                                  have Ny145 := Aside0.mk hy145
                                  clear hy145
                                  replace H := Option.bind_eq_some_iff.mp H
                                  obtain ⟨t148, A260, H⟩ := H
                                  replace H : (some t148) = some r := H
                                  have A26 := Aside0.mk A260
                                  clear A260
                                  obtain rfl := Option.some.inj H
                                  go_enter Try.func8, Try.ntmps8
                                  try go_wp2_with (first | ((with_reducible refine gate_dst (N := 1) rfl ?_); (try (refine gate_guard (by rfl) ?_; dsimp only)); refine box_event ?hg (N := 1) ?hd (cs := #[.int .u16 0, .int .u8 0, .int .u8 0, .int .u32 0]) (t := 39) ?hr ?_; (case hd => rfl); (case hg => rfl); (case hr => first | (go_simp; done) | (go_simp; rfl)); intro gb122 hg w27 hbox hb; have n0_ := Aside0.mk (below_step (by repeat (first | (with_reducible first | exact HB.out | apply below_alloc | apply pw_below_drewN | apply below_drew1) | exact HB.out)) hb); have n1_ := Aside0.mk (hbox); have n2_ := Aside0.mk ((by rw [hg]; exact (below_size (by repeat (first | (with_reducible first | exact HB.out | apply below_alloc | apply pw_below_drewN | apply below_drew1) | exact HB.out))) : w.heap.size ≤ gb122)); have n3_ := Aside0.mk ((by rw [hg]; exact (below_size (by repeat (first | (with_reducible first | exact HB.out | apply below_alloc | apply pw_below_drewN | apply below_drew1) | exact HB.out))) : w.heap.size ≤ gb122)); clear HB; have HB := n0_; have BK122 := n1_; have GW122 := n2_; have GE122 := n3_; clear n0_ n1_ n2_ n3_; clear hb hbox hg; have hcz28_0 : w27.cell? ⟨gb122, 0, none⟩ = some (.int .u16 0) := (blk_cell BK122.out 0).trans rfl; have hcz28_1 : w27.cell? ⟨gb122, 1, none⟩ = some (.int .u8 0) := (blk_cell BK122.out 1).trans rfl; have hcz28_2 : w27.cell? ⟨gb122, 2, none⟩ = some (.int .u8 0) := (blk_cell BK122.out 2).trans rfl; have hcz28_3 : w27.cell? ⟨gb122, 3, none⟩ = some (.int .u32 0) := (blk_cell BK122.out 3).trans rfl; have hfz28_0 := blk_frozen BK122.out 0; have hfz28_1 := blk_frozen BK122.out 1; have hfz28_2 := blk_frozen BK122.out 2; have hfz28_3 := blk_frozen BK122.out 3) | ((with_reducible refine gate_callee (f := 18) rfl ?_); refine goesL_ (some 15) rfl rfl Try.func18 (by kernel_rfl) rfl #[.agg #[.int .u16 277, .int .u8 2, .int .u8 3, .int .u32 67305985]] rfl (by (try simp only [List.map_toArray, List.map_cons, List.map_nil]); first | done | rfl | (simp only [List.length_drop, List.length_take]; rfl)) ?_; (with_reducible refine (instr_One.calls k 277 2 3 67305985 t123 _ A1.out).mono ?_); rintro e w29 ⟨rfl, hb⟩; refine ⟨_, rfl, ?_⟩; have n0_ := Aside0.mk (blk_below (g := gb122) (o := .cells #[.int .u16 277, .int .u8 2, .int .u8 3, .int .u32 67305985] 39 (0, 0)) (by (with_reducible repeat (first | refine blk_drewN ?_ _ | refine blk_drew ?_ | refine blk_alloc ?_ _)); refine blk_put (cs := #[.int .u16 277, .int .u8 2, .int .u8 3, .int .u32 0]) ?_ 3 _ rfl; (with_reducible repeat (first | refine blk_drewN ?_ _ | refine blk_drew ?_ | refine blk_alloc ?_ _)); refine blk_put (cs := #[.int .u16 277, .int .u8 2, .int .u8 0, .int .u32 0]) ?_ 2 _ rfl; (with_reducible repeat (first | refine blk_drewN ?_ _ | refine blk_drew ?_ | refine blk_alloc ?_ _)); refine blk_put (cs := #[.int .u16 277, .int .u8 0, .int .u8 0, .int .u32 0]) ?_ 1 _ rfl; (with_reducible repeat (first | refine blk_drewN ?_ _ | refine blk_drew ?_ | refine blk_alloc ?_ _)); refine blk_put (cs := #[.int .u16 0, .int .u8 0, .int .u8 0, .int .u32 0]) ?_ 0 _ rfl; (with_reducible repeat (first | refine blk_drewN ?_ _ | refine blk_drew ?_ | refine blk_alloc ?_ _)); exact BK122.out) hb); have n1_ := Aside0.mk (below_step (by repeat (first | (with_reducible first | exact HB.out | apply below_alloc | apply pw_below_drewN | apply below_drew1 | refine below_set ?_ GE122.out) | exact HB.out)) hb); clear BK122; clear HB; have BK122 := n0_; have HB := n1_; clear n0_ n1_; (try clear hb); (try clear hb2); (try clear hk); (try clear hi)) | ((with_reducible refine gate_callee (f := 9) rfl ?_); refine goesL_ (some 20) rfl rfl Try.func9 (by kernel_rfl) rfl #[.string (t123 ++ t123)] rfl (by (try simp only [List.map_toArray, List.map_cons, List.map_nil]); first | done | rfl | (simp only [List.length_drop, List.length_take]; rfl)) ?_; (with_reducible refine (instr_Read.calls k (t123 ++ t123) t124 t125 _ A3.out).mono ?_); rintro e w30 ⟨v126, rfl, ho0, hb⟩; refine ⟨_, rfl, ?_⟩; have n0_ := Aside0.mk (Kd.R_lower (Kd.R_newB ho0 (g := gb122) (o := .cells #[.int .u16 277, .int .u8 2, .int .u8 3, .int .u32 67305985] 39 (0, 0)) (by (with_reducible repeat (first | refine blk_drewN ?_ _ | refine blk_drew ?_ | refine blk_alloc ?_ _)); exact BK122.out)) (below_size (by repeat (first | (with_reducible first | exact HB.out | apply below_alloc | apply pw_below_drewN | apply below_drew1 | refine below_set ?_ GE122.out) | exact HB.out)))); have n1_ := Aside0.mk (blk_below (g := gb122) (o := .cells #[.int .u16 277, .int .u8 2, .int .u8 3, .int .u32 67305985] 39 (0, 0)) (by (with_reducible repeat (first | refine blk_drewN ?_ _ | refine blk_drew ?_ | refine blk_alloc ?_ _)); exact BK122.out) hb); have n2_ := Aside0.mk (below_step (by repeat (first | (with_reducible first | exact HB.out | apply below_alloc | apply pw_below_drewN | apply below_drew1 | refine below_set ?_ GE122.out) | exact HB.out)) hb); clear BK122; clear HB; have HO127 := n0_; have BK122 := n1_; have HB := n2_; clear n0_ n1_ n2_; (try clear hb); (try clear hb2); (try clear hk); (try clear hi); (try clear ho0)) | ((with_reducible refine gate_callee (f := 9) rfl ?_); refine goesL_ (some 26) rfl rfl Try.func9 (by kernel_rfl) rfl #[.string (t123 ++ (⟨#[120]⟩ : ByteArray))] rfl (by (try simp only [List.map_toArray, List.map_cons, List.map_nil]); first | done | rfl | (simp only [List.length_drop, List.length_take]; rfl)) ?_; (with_reducible refine (instr_Read.calls k (t123 ++ (⟨#[120]⟩ : ByteArray)) t128 t129 _ A5.out).mono ?_); rintro e w31 ⟨v130, rfl, ho0, hb⟩; refine ⟨_, rfl, ?_⟩; have n0_ := Aside0.mk (Kd.R_elder' (by (with_reducible repeat (first | apply Kd.R_alloc | apply Kd.R_drewN | apply Kd.R_drew)); exact HO127.out) (Kd.R_base ho0) hb); have n1_ := Aside0.mk (Kd.R_lower (Kd.R_newB (Kd.R_new' ho0 (Kd.R_lt (by (with_reducible repeat (first | apply Kd.R_alloc | apply Kd.R_drewN | apply Kd.R_drew)); exact HO127.out))) (g := gb122) (o := .cells #[.int .u16 277, .int .u8 2, .int .u8 3, .int .u32 67305985] 39 (0, 0)) (by (with_reducible repeat (first | refine blk_drewN ?_ _ | refine blk_drew ?_ | refine blk_alloc ?_ _)); exact BK122.out)) (below_size (by repeat (first | (with_reducible first | exact HB.out | apply below_alloc | apply pw_below_drewN | apply below_drew1 | refine below_set ?_ GE122.out) | exact HB.out)))); have n2_ := Aside0.mk (blk_below (g := gb122) (o := .cells #[.int .u16 277, .int .u8 2, .int .u8 3, .int .u32 67305985] 39 (0, 0)) (by (with_reducible repeat (first | refine blk_drewN ?_ _ | refine blk_drew ?_ | refine blk_alloc ?_ _)); exact BK122.out) hb); have n3_ := Aside0.mk (below_step (by repeat (first | (with_reducible first | exact HB.out | apply below_alloc | apply pw_below_drewN | apply below_drew1 | refine below_set ?_ GE122.out) | exact HB.out)) hb); clear HO127; clear BK122; clear HB; have HO127 := n0_; have HO131 := n1_; have BK122 := n2_; have HB := n3_; clear n0_ n1_ n2_ n3_; (try clear hb); (try clear hb2); (try clear hk); (try clear hi); (try clear ho0)) | ((with_reducible refine gate_callee (f := 12) rfl ?_); refine goesL_ (some 30) rfl rfl Try.func12 (by kernel_rfl) rfl #[.slice none 0 0] rfl (by (try simp only [List.map_toArray, List.map_cons, List.map_nil]); first | done | rfl | (simp only [List.length_drop, List.length_take]; rfl)) ?_; (refine (instr_Print.calls _ _ ([] : List (S39)) t132 t133 _ ?side1 ?side2 A6.out).mono ?_); (case side1 => exact Kd.C_nil _ _); (case side2 => exact Nat.le_refl _); rintro e w32 ⟨rfl, hb⟩; refine ⟨_, rfl, ?_⟩; have n0_ := Aside0.mk (Kd.R_below (by (with_reducible repeat (first | apply Kd.R_alloc | apply Kd.R_drewN | apply Kd.R_drew)); exact HO127.out) hb); have n1_ := Aside0.mk (Kd.R_below (by (with_reducible repeat (first | apply Kd.R_alloc | apply Kd.R_drewN | apply Kd.R_drew)); exact HO131.out) hb); have n2_ := Aside0.mk (blk_below (g := gb122) (o := .cells #[.int .u16 277, .int .u8 2, .int .u8 3, .int .u32 67305985] 39 (0, 0)) (by (with_reducible repeat (first | refine blk_drewN ?_ _ | refine blk_drew ?_ | refine blk_alloc ?_ _)); exact BK122.out) hb); have n3_ := Aside0.mk (below_step (by repeat (first | (with_reducible first | exact HB.out | apply below_alloc | apply pw_below_drewN | apply below_drew1 | refine below_set ?_ GE122.out) | exact HB.out)) hb); clear HO127; clear HO131; clear BK122; clear HB; have HO127 := n0_; have HO131 := n1_; have BK122 := n2_; have HB := n3_; clear n0_ n1_ n2_ n3_; (try clear hb); (try clear hb2); (try clear hk); (try clear hi)) | ((with_reducible refine gate_dst (N := 34) rfl ?_); (try (refine gate_guard (by rfl) ?_; dsimp only)); refine Kd.R_make k39 _ 39 rfl (N := 34) rfl 23 _ _ rfl 4097 rfl rfl Try.underlying23 (.agg #[(.int .u16 0), (.int .u8 0), (.int .u8 0), (.int .u32 0)]) 8 info39 rfl (by decide) (by omega) z39 (ok := fun _ => True) (okp := fun _ => True) (k39_mkM _ _ _ z39 ) (fun _ hk => hk) trivial (by omega) (by omega) (Below.refl _ _) (Nat.le_refl _) ?_; intro v135 w33 ho34 hb hg_ hnew_; clear hg_ hnew_; (first | rw [← Ny134.out] at ho34 | (simp only [Int.reduceToNat] at ho34; rw [← Ny134.out] at ho34)); have n0_ := Aside0.mk (Kd.R_elder' (by (with_reducible repeat (first | apply Kd.R_alloc | apply Kd.R_drewN | apply Kd.R_drew)); exact HO127.out) (Kd.R_base ho34) hb); have n1_ := Aside0.mk (Kd.R_elder' (by (with_reducible repeat (first | apply Kd.R_alloc | apply Kd.R_drewN | apply Kd.R_drew)); exact HO131.out) (Kd.R_base ho34) hb); have n2_ := Aside0.mk (Kd.R_lower (Kd.R_newB (Kd.R_new' (Kd.R_new' ho34 (Kd.R_lt (by (with_reducible repeat (first | apply Kd.R_alloc | apply Kd.R_drewN | apply Kd.R_drew)); exact HO127.out))) (Kd.R_lt (by (with_reducible repeat (first | apply Kd.R_alloc | apply Kd.R_drewN | apply Kd.R_drew)); exact HO131.out))) (g := gb122) (o := .cells #[.int .u16 277, .int .u8 2, .int .u8 3, .int .u32 67305985] 39 (0, 0)) (by (with_reducible repeat (first | refine blk_drewN ?_ _ | refine blk_drew ?_ | refine blk_alloc ?_ _)); exact BK122.out)) (below_size (by repeat (first | (with_reducible first | exact HB.out | apply below_alloc | apply pw_below_drewN | apply below_drew1 | refine below_set ?_ GE122.out) | exact HB.out)))); have n3_ := Aside0.mk (blk_below (g := gb122) (o := .cells #[.int .u16 277, .int .u8 2, .int .u8 3, .int .u32 67305985] 39 (0, 0)) (by (with_reducible repeat (first | refine blk_drewN ?_ _ | refine blk_drew ?_ | refine blk_alloc ?_ _)); exact BK122.out) hb); have n4_ := Aside0.mk (below_step (by repeat (first | (with_reducible first | exact HB.out | apply below_alloc | apply pw_below_drewN | apply below_drew1 | refine below_set ?_ GE122.out) | exact HB.out)) hb); clear HO127; clear HO131; clear BK122; clear HB; have HO127 := n0_; have HO131 := n1_; have HO136 := n2_; have BK122 := n3_; have HB := n4_; clear n0_ n1_ n2_ n3_ n4_; clear hb ho34; obtain ⟨Ao35, co35, eo35⟩ := Kd.R_slice HO136.out; subst eo35) | ((with_reducible refine gate_callee (f := 12) rfl ?_); refine goesL_ (some 35) rfl rfl Try.func12 (by kernel_rfl) rfl #[.slice Ao35 y134.length co35] rfl (by (try simp only [List.map_toArray, List.map_cons, List.map_nil]); first | done | rfl | (simp only [List.length_drop, List.length_take]; rfl)) ?_; (with_reducible refine (instr_Print.calls _ _ y134 t137 t138 _ ?side1 ?side2 A8.out).mono ?_); (case side1 => repeat (first | exact (Kd.R_reads' HO136.out).2.2 | (with_reducible refine Kd.C_alloc ?_ _) | (with_reducible refine Kd.C_drewN ?_ _) | (with_reducible refine Kd.C_drew ?_))); (case side2 => exact (Kd.R_reads' HO136.out).2.1); rintro e w36 ⟨rfl, hb⟩; refine ⟨_, rfl, ?_⟩; have n0_ := Aside0.mk (Kd.R_below (by (with_reducible repeat (first | apply Kd.R_alloc | apply Kd.R_drewN | apply Kd.R_drew)); exact HO127.out) hb); have n1_ := Aside0.mk (Kd.R_below (by (with_reducible repeat (first | apply Kd.R_alloc | apply Kd.R_drewN | apply Kd.R_drew)); exact HO131.out) hb); have n2_ := Aside0.mk (Kd.R_below (by (with_reducible repeat (first | apply Kd.R_alloc | apply Kd.R_drewN | apply Kd.R_drew)); exact HO136.out) hb); have n3_ := Aside0.mk (blk_below (g := gb122) (o := .cells #[.int .u16 277, .int .u8 2, .int .u8 3, .int .u32 67305985] 39 (0, 0)) (by (with_reducible repeat (first | refine blk_drewN ?_ _ | refine blk_drew ?_ | refine blk_alloc ?_ _)); exact BK122.out) hb); have n4_ := Aside0.mk (below_step (by repeat (first | (with_reducible first | exact HB.out | apply below_alloc | apply pw_below_drewN | apply below_drew1 | refine below_set ?_ GE122.out) | exact HB.out)) hb); clear HO127; clear HO131; clear HO136; clear BK122; clear HB; have HO127 := n0_; have HO131 := n1_; have HO136 := n2_; have BK122 := n3_; have HB := n4_; clear n0_ n1_ n2_ n3_ n4_; (try clear hb); (try clear hb2); (try clear hk); (try clear hi); obtain ⟨Ao37, co37, eo37⟩ := Kd.R_slice HO127.out; subst eo37) | ((with_reducible refine gate_callee (f := 12) rfl ?_); refine goesL_ (some 40) rfl rfl Try.func12 (by kernel_rfl) rfl #[.slice Ao37 t124.length co37] rfl (by (try simp only [List.map_toArray, List.map_cons, List.map_nil]); first | done | rfl | (simp only [List.length_drop, List.length_take]; rfl)) ?_; (with_reducible refine (instr_Print.calls _ _ t124 t139 t140 _ ?side1 ?side2 A9.out).mono ?_); (case side1 => repeat (first | exact (Kd.R_reads' HO127.out).2.2 | (with_reducible refine Kd.C_alloc ?_ _) | (with_reducible refine Kd.C_drewN ?_ _) | (with_reducible refine Kd.C_drew ?_))); (case side2 => exact (Kd.R_reads' HO127.out).2.1); rintro e w38 ⟨rfl, hb⟩; refine ⟨_, rfl, ?_⟩; have n0_ := Aside0.mk (Kd.R_below (by (with_reducible repeat (first | apply Kd.R_alloc | apply Kd.R_drewN | apply Kd.R_drew)); exact HO127.out) hb); have n1_ := Aside0.mk (Kd.R_below (by (with_reducible repeat (first | apply Kd.R_alloc | apply Kd.R_drewN | apply Kd.R_drew)); exact HO131.out) hb); have n2_ := Aside0.mk (Kd.R_below (by (with_reducible repeat (first | apply Kd.R_alloc | apply Kd.R_drewN | apply Kd.R_drew)); exact HO136.out) hb); have n3_ := Aside0.mk (blk_below (g := gb122) (o := .cells #[.int .u16 277, .int .u8 2, .int .u8 3, .int .u32 67305985] 39 (0, 0)) (by (with_reducible repeat (first | refine blk_drewN ?_ _ | refine blk_drew ?_ | refine blk_alloc ?_ _)); exact BK122.out) hb); have n4_ := Aside0.mk (below_step (by repeat (first | (with_reducible first | exact HB.out | apply below_alloc | apply pw_below_drewN | apply below_drew1 | refine below_set ?_ GE122.out) | exact HB.out)) hb); clear HO127; clear HO131; clear HO136; clear BK122; clear HB; have HO127 := n0_; have HO131 := n1_; have HO136 := n2_; have BK122 := n3_; have HB := n4_; clear n0_ n1_ n2_ n3_ n4_; (try clear hb); (try clear hb2); (try clear hk); (try clear hi)))
                                  have n0_ := Aside0.mk (Kd.R_drew HO127.out)
                                  have n1_ := Aside0.mk (Kd.R_drew HO131.out)
                                  have n2_ := Aside0.mk (Kd.R_drew HO136.out)
                                  have n3_ := Aside0.mk (blk_drew BK122.out)
                                  have n4_ := Aside0.mk (below_drew1 HB.out)
                                  clear HO127
                                  clear HO131
                                  clear HO136
                                  clear BK122
                                  clear HB
                                  have HO127 := n0_
                                  have HO131 := n1_
                                  have HO136 := n2_
                                  have BK122 := n3_
                                  have HB := n4_
                                  clear n0_ n1_ n2_ n3_ n4_
                                  have p141 : 0 ≤ (1 : Int) := (by omega)
                                  have q141 : 1 < (t124.length : Int) := of_decide_eq_true (by first | (with_reducible assumption) | assumption)
                                  obtain ⟨ad141, e141, hx141_0, hx141_1, hx141_2, hx141_3⟩ := at_T39 (Kd.R_reads' HO127.out).2.2 1 p141 q141
                                  cases e141
                                  (try simp only [show (1 : Int).toNat = 1 from rfl, Nat.reduceMul, Nat.reduceEqDiff, Go.Addr.add, ↓reduceIte] at hx141_0)
                                  (try simp only [show (1 : Int).toNat = 1 from rfl, Nat.reduceMul, Nat.reduceEqDiff, Go.Addr.add, ↓reduceIte] at hx141_1)
                                  (try simp only [show (1 : Int).toNat = 1 from rfl, Nat.reduceMul, Nat.reduceEqDiff, Go.Addr.add, ↓reduceIte] at hx141_2)
                                  (try simp only [show (1 : Int).toNat = 1 from rfl, Nat.reduceMul, Nat.reduceEqDiff, Go.Addr.add, ↓reduceIte] at hx141_3)
                                  have qi141 : (1 < t124.length) = True := eq_true (by omega)
                                  (try rw [show ((1 : Int)).toNat = 1 from rfl] at hx141_0)
                                  (try rw [show 1 * 4 = 4 from rfl] at hx141_0)
                                  (try rw [show ((1 : Int)).toNat = 1 from rfl] at hx141_1)
                                  (try rw [show 1 * 4 = 4 from rfl] at hx141_1)
                                  (try rw [show ((1 : Int)).toNat = 1 from rfl] at hx141_2)
                                  (try rw [show 1 * 4 = 4 from rfl] at hx141_2)
                                  (try rw [show ((1 : Int)).toNat = 1 from rfl] at hx141_3)
                                  (try rw [show 1 * 4 = 4 from rfl] at hx141_3)
                                  replace p141 := eq_true p141
                                  replace q141 := eq_true q141
                                  refine start_ (n := 64) (S := fun w' => w'.cell? ⟨gb122, 0, none⟩ = some (.int .u16 277) ∧ w'.cell? ⟨gb122, 1, none⟩ = some (.int .u8 2) ∧ w'.cell? ⟨gb122, 2, none⟩ = some (.int .u8 3) ∧ w'.cell? ⟨gb122, 3, none⟩ = some (.int .u32 67305985) ∧ w'.cell? ⟨ad141.block, ad141.off + 4, none⟩ = some (.int .u16 ((rd_T39 t124 1).f0)) ∧ w'.cell? ⟨ad141.block, ad141.off + 4 + 1, none⟩ = some (.int .u8 ((rd_T39 t124 1).f1)) ∧ w'.cell? ⟨ad141.block, ad141.off + 4 + 2, none⟩ = some (.int .u8 ((rd_T39 t124 1).f2)) ∧ w'.cell? ⟨ad141.block, ad141.off + 4 + 3, none⟩ = some (.int .u32 ((rd_T39 t124 1).f3))) (ds := []) #[false, false, false, false, false, false, false, false, false, false, false, false, false, false, false, false, false, false, false, false, false, false, false, false, false, false, false, false, false, false, false, false, false, false, false, false, false, false, false, false, false, false, false, false, false, false, false, false, false, false, false, false, false, false, false, false, false, false, false, false, false, false, false, false] (by kernel_rfl) rfl rfl ⟨(blk_cell BK122.out 0).trans rfl, (blk_cell BK122.out 1).trans rfl, (blk_cell BK122.out 2).trans rfl, (blk_cell BK122.out 3).trans rfl, hx141_0, hx141_1, hx141_2, hx141_3⟩ (fun hHeld => ?_); refine with_tabW tamislaw02_awake.tab8 tamislaw02_awake.bits8 (fun HT_ HW_ => ?_)
                                  generalize w38.drew = w39 at HO127 HO131 HO136 BK122 HB hx141_0 hx141_1 hx141_2 hx141_3 hHeld ⊢
                                  refine pure_ (i := 0) (N := some 43) (v := ?_) (a' := ?_) #[true, false, false, false, false, false, false, false, false, false, false, false, false, false, false, false, false, false, false, false, false, false, false, false, false, false, false, false, false, false, false, false, false, false, false, false, false, false, false, false, false, false, false, false, false, false, false, false, false, false, false, false, false, false, false, false, false, false, false, false, false, false, false, false] rfl rfl (any_of HT_.out (by kernel_rfl)) (fun _ _ _ h => h) (Or.inl ⟨by rfl, ?_⟩) ?_ ?_
                                  rotate_left
                                  · intro w'
                                    go_simp
                                    with_reducible rfl
                                  rotate_left
                                  · simp only [Act.put, List.setIfInBounds_toArray, List.set_cons_zero, List.set_cons_succ, i64_w, i32_w]
                                    rfl
                                  refine pure_ (i := 1) (N := some 44) (v := ?_) (a' := ?_) #[true, true, false, false, false, false, false, false, false, false, false, false, false, false, false, false, false, false, false, false, false, false, false, false, false, false, false, false, false, false, false, false, false, false, false, false, false, false, false, false, false, false, false, false, false, false, false, false, false, false, false, false, false, false, false, false, false, false, false, false, false, false, false, false] rfl rfl (any_of HT_.out (by kernel_rfl)) (fun _ _ _ h => h) (Or.inl ⟨by rfl, ?_⟩) ?_ ?_
                                  rotate_left
                                  · intro w'
                                    go_simp
                                    with_reducible rfl
                                  rotate_left
                                  · simp only [Act.put, List.setIfInBounds_toArray, List.set_cons_zero, List.set_cons_succ, i64_w, i32_w]
                                    rfl
                                  refine pure_ (i := 2) (N := some 45) (v := ?_) (a' := ?_) #[true, true, true, false, false, false, false, false, false, false, false, false, false, false, false, false, false, false, false, false, false, false, false, false, false, false, false, false, false, false, false, false, false, false, false, false, false, false, false, false, false, false, false, false, false, false, false, false, false, false, false, false, false, false, false, false, false, false, false, false, false, false, false, false] rfl rfl (any_of HT_.out (by kernel_rfl)) (fun _ _ _ h => h) (Or.inl ⟨by rfl, ?_⟩) ?_ ?_
                                  rotate_left
                                  · intro w'
                                    go_simp
                                    with_reducible rfl
                                  rotate_left
                                  · simp only [Act.put, List.setIfInBounds_toArray, List.set_cons_zero, List.set_cons_succ, i64_w, i32_w]
                                    rfl
                                  refine pure_ (i := 3) (N := some 46) (v := ?_) (a' := ?_) #[true, true, true, true, false, false, false, false, false, false, false, false, false, false, false, false, false, false, false, false, false, false, false, false, false, false, false, false, false, false, false, false, false, false, false, false, false, false, false, false, false, false, false, false, false, false, false, false, false, false, false, false, false, false, false, false, false, false, false, false, false, false, false, false] rfl rfl (any_of HT_.out (by kernel_rfl)) (fun _ _ _ h => h) (Or.inl ⟨by rfl, ?_⟩) ?_ ?_
                                  rotate_left
                                  · intro w'
                                    go_simp
                                    with_reducible rfl
                                  rotate_left
                                  · simp only [Act.put, List.setIfInBounds_toArray, List.set_cons_zero, List.set_cons_succ, i64_w, i32_w]
                                    rfl
                                  refine pure_ (i := 4) (N := some 47) (v := ?_) (a' := ?_) #[true, true, true, true, true, false, false, false, false, false, false, false, false, false, false, false, false, false, false, false, false, false, false, false, false, false, false, false, false, false, false, false, false, false, false, false, false, false, false, false, false, false, false, false, false, false, false, false, false, false, false, false, false, false, false, false, false, false, false, false, false, false, false, false] rfl rfl (any_of HT_.out (by kernel_rfl)) (fun _ _ _ h => h) (Or.inl ⟨by rfl, ?_⟩) ?_ ?_
                                  rotate_left
                                  · intro w'
                                    go_simp
                                    with_reducible rfl
                                  rotate_left
                                  · simp only [Act.put, List.setIfInBounds_toArray, List.set_cons_zero, List.set_cons_succ, i64_w, i32_w]
                                    rfl
                                  refine pure_ (i := 5) (N := some 48) (v := ?_) (a' := ?_) #[true, true, true, true, true, true, false, false, false, false, false, false, false, false, false, false, false, false, false, false, false, false, false, false, false, false, false, false, false, false, false, false, false, false, false, false, false, false, false, false, false, false, false, false, false, false, false, false, false, false, false, false, false, false, false, false, false, false, false, false, false, false, false, false] rfl rfl (any_of HT_.out (by kernel_rfl)) (fun _ _ _ h => h) (Or.inl ⟨by rfl, ?_⟩) ?_ ?_
                                  rotate_left
                                  · intro w'
                                    go_simp
                                    with_reducible rfl
                                  rotate_left
                                  · simp only [Act.put, List.setIfInBounds_toArray, List.set_cons_zero, List.set_cons_succ, i64_w, i32_w]
                                    rfl
                                  refine pure_ (i := 6) (N := some 49) (v := ?_) (a' := ?_) #[true, true, true, true, true, true, true, false, false, false, false, false, false, false, false, false, false, false, false, false, false, false, false, false, false, false, false, false, false, false, false, false, false, false, false, false, false, false, false, false, false, false, false, false, false, false, false, false, false, false, false, false, false, false, false, false, false, false, false, false, false, false, false, false] rfl rfl (any_of HT_.out (by kernel_rfl)) (fun _ _ _ h => h) (Or.inl ⟨by rfl, ?_⟩) ?_ ?_
                                  rotate_left
                                  · intro w'
                                    go_simp
                                    with_reducible rfl
                                  rotate_left
                                  · simp only [Act.put, List.setIfInBounds_toArray, List.set_cons_zero, List.set_cons_succ, i64_w, i32_w]
                                    rfl
                                  refine pure_ (i := 7) (N := some 50) (v := ?_) (a' := ?_) #[true, true, true, true, true, true, true, true, false, false, false, false, false, false, false, false, false, false, false, false, false, false, false, false, false, false, false, false, false, false, false, false, false, false, false, false, false, false, false, false, false, false, false, false, false, false, false, false, false, false, false, false, false, false, false, false, false, false, false, false, false, false, false, false] rfl rfl (any_of HT_.out (by kernel_rfl)) (fun _ _ _ h => h) (Or.inl ⟨by rfl, ?_⟩) ?_ ?_
                                  rotate_left
                                  · intro w'
                                    go_simp
                                    with_reducible rfl
                                  rotate_left
                                  · simp only [Act.put, List.setIfInBounds_toArray, List.set_cons_zero, List.set_cons_succ, i64_w, i32_w]
                                    rfl
                                  refine pure_ (i := 8) (N := some 51) (v := ?_) (a' := ?_) #[true, true, true, true, true, true, true, true, true, false, false, false, false, false, false, false, false, false, false, false, false, false, false, false, false, false, false, false, false, false, false, false, false, false, false, false, false, false, false, false, false, false, false, false, false, false, false, false, false, false, false, false, false, false, false, false, false, false, false, false, false, false, false, false] rfl rfl (any_of HT_.out (by kernel_rfl)) (fun _ _ _ h => h) (Or.inl ⟨by rfl, ?_⟩) ?_ ?_
                                  rotate_left
                                  · intro w'
                                    go_simp
                                    with_reducible rfl
                                  rotate_left
                                  · simp only [Act.put, List.setIfInBounds_toArray, List.set_cons_zero, List.set_cons_succ, i64_w, i32_w]
                                    rfl
                                  refine pure_ (i := 9) (N := some 52) (v := ?_) (a' := ?_) #[true, true, true, true, true, true, true, true, true, true, false, false, false, false, false, false, false, false, false, false, false, false, false, false, false, false, false, false, false, false, false, false, false, false, false, false, false, false, false, false, false, false, false, false, false, false, false, false, false, false, false, false, false, false, false, false, false, false, false, false, false, false, false, false] rfl rfl (any_of HT_.out (by kernel_rfl)) (fun _ _ _ h => h) (Or.inl ⟨by rfl, ?_⟩) ?_ ?_
                                  rotate_left
                                  · intro w'
                                    go_simp
                                    with_reducible rfl
                                  rotate_left
                                  · simp only [Act.put, List.setIfInBounds_toArray, List.set_cons_zero, List.set_cons_succ, i64_w, i32_w]
                                    rfl
                                  refine take_ (i := 10) (N := some 53) (v := ?_) (a' := ?_) #[true, true, true, true, true, true, true, true, true, true, true, false, false, false, false, false, false, false, false, false, false, false, false, false, false, false, false, false, false, false, false, false, false, false, false, false, false, false, false, false, false, false, false, false, false, false, false, false, false, false, false, false, false, false, false, false, false, false, false, false, false, false, false, false] rfl rfl (take_ofW HT_.out HW_.out (by kernel_rfl)) (fun _ _ _ h => h) (Or.inl ⟨by rfl, ?_⟩) hHeld ?_ ?_
                                  rotate_left
                                  · rintro w' ⟨s0, s1, s2, s3, s4, s5, s6, s7⟩
                                    go_simp
                                    with_reducible rfl
                                  rotate_left
                                  · simp only [Act.put, List.setIfInBounds_toArray, List.set_cons_zero, List.set_cons_succ, i64_w, i32_w]
                                    rfl
                                  refine take_ (i := 11) (N := some 54) (v := ?_) (a' := ?_) #[true, true, true, true, true, true, true, true, true, true, true, true, false, false, false, false, false, false, false, false, false, false, false, false, false, false, false, false, false, false, false, false, false, false, false, false, false, false, false, false, false, false, false, false, false, false, false, false, false, false, false, false, false, false, false, false, false, false, false, false, false, false, false, false] rfl rfl (take_ofW HT_.out HW_.out (by kernel_rfl)) (fun _ _ _ h => h) (Or.inl ⟨by rfl, ?_⟩) hHeld ?_ ?_
                                  rotate_left
                                  · rintro w' ⟨s0, s1, s2, s3, s4, s5, s6, s7⟩
                                    go_simp
                                    with_reducible rfl
                                  rotate_left
                                  · simp only [Act.put, List.setIfInBounds_toArray, List.set_cons_zero, List.set_cons_succ, i64_w, i32_w]
                                    rfl
                                  refine pure_ (i := 12) (N := some 55) (v := ?_) (a' := ?_) #[true, true, true, true, true, true, true, true, true, true, true, true, true, false, false, false, false, false, false, false, false, false, false, false, false, false, false, false, false, false, false, false, false, false, false, false, false, false, false, false, false, false, false, false, false, false, false, false, false, false, false, false, false, false, false, false, false, false, false, false, false, false, false, false] rfl rfl (any_of HT_.out (by kernel_rfl)) (fun _ _ _ h => h) (Or.inl ⟨by rfl, ?_⟩) ?_ ?_
                                  rotate_left
                                  · intro w'
                                    go_simp
                                    with_reducible rfl
                                  rotate_left
                                  · simp only [Act.put, List.setIfInBounds_toArray, List.set_cons_zero, List.set_cons_succ, i64_w, i32_w]
                                    rfl
                                  refine pure_ (i := 13) (N := some 56) (v := ?_) (a' := ?_) #[true, true, true, true, true, true, true, true, true, true, true, true, true, true, false, false, false, false, false, false, false, false, false, false, false, false, false, false, false, false, false, false, false, false, false, false, false, false, false, false, false, false, false, false, false, false, false, false, false, false, false, false, false, false, false, false, false, false, false, false, false, false, false, false] rfl rfl (any_of HT_.out (by kernel_rfl)) (fun _ _ _ h => h) (Or.inl ⟨by rfl, ?_⟩) ?_ ?_
                                  rotate_left
                                  · intro w'
                                    go_simp
                                    with_reducible rfl
                                  rotate_left
                                  · simp only [Act.put, List.setIfInBounds_toArray, List.set_cons_zero, List.set_cons_succ, i64_w, i32_w]
                                    rfl
                                  refine pure_ (i := 14) (N := some 57) (v := ?_) (a' := ?_) #[true, true, true, true, true, true, true, true, true, true, true, true, true, true, true, false, false, false, false, false, false, false, false, false, false, false, false, false, false, false, false, false, false, false, false, false, false, false, false, false, false, false, false, false, false, false, false, false, false, false, false, false, false, false, false, false, false, false, false, false, false, false, false, false] rfl rfl (any_of HT_.out (by kernel_rfl)) (fun _ _ _ h => h) (Or.inl ⟨by rfl, ?_⟩) ?_ ?_
                                  rotate_left
                                  · intro w'
                                    go_simp
                                    with_reducible rfl
                                  rotate_left
                                  · simp only [Act.put, List.setIfInBounds_toArray, List.set_cons_zero, List.set_cons_succ, i64_w, i32_w]
                                    rfl
                                  refine pure_ (i := 15) (N := some 58) (v := ?_) (a' := ?_) #[true, true, true, true, true, true, true, true, true, true, true, true, true, true, true, true, false, false, false, false, false, false, false, false, false, false, false, false, false, false, false, false, false, false, false, false, false, false, false, false, false, false, false, false, false, false, false, false, false, false, false, false, false, false, false, false, false, false, false, false, false, false, false, false] rfl rfl (any_of HT_.out (by kernel_rfl)) (fun _ _ _ h => h) (Or.inl ⟨by rfl, ?_⟩) ?_ ?_
                                  rotate_left
                                  · intro w'
                                    go_simp
                                    with_reducible rfl
                                  rotate_left
                                  · simp only [Act.put, List.setIfInBounds_toArray, List.set_cons_zero, List.set_cons_succ, i64_w, i32_w]
                                    rfl
                                  refine pure_ (i := 16) (N := some 59) (v := ?_) (a' := ?_) #[true, true, true, true, true, true, true, true, true, true, true, true, true, true, true, true, true, false, false, false, false, false, false, false, false, false, false, false, false, false, false, false, false, false, false, false, false, false, false, false, false, false, false, false, false, false, false, false, false, false, false, false, false, false, false, false, false, false, false, false, false, false, false, false] rfl rfl (any_of HT_.out (by kernel_rfl)) (fun _ _ _ h => h) (Or.inl ⟨by rfl, ?_⟩) ?_ ?_
                                  rotate_left
                                  · intro w'
                                    go_simp
                                    with_reducible rfl
                                  rotate_left
                                  · simp only [Act.put, List.setIfInBounds_toArray, List.set_cons_zero, List.set_cons_succ, i64_w, i32_w]
                                    rfl
                                  refine pure_ (i := 17) (N := some 60) (v := ?_) (a' := ?_) #[true, true, true, true, true, true, true, true, true, true, true, true, true, true, true, true, true, true, false, false, false, false, false, false, false, false, false, false, false, false, false, false, false, false, false, false, false, false, false, false, false, false, false, false, false, false, false, false, false, false, false, false, false, false, false, false, false, false, false, false, false, false, false, false] rfl rfl (any_of HT_.out (by kernel_rfl)) (fun _ _ _ h => h) (Or.inl ⟨by rfl, ?_⟩) ?_ ?_
                                  rotate_left
                                  · intro w'
                                    go_simp
                                    with_reducible rfl
                                  rotate_left
                                  · simp only [Act.put, List.setIfInBounds_toArray, List.set_cons_zero, List.set_cons_succ, i64_w, i32_w]
                                    rfl
                                  refine pure_ (i := 18) (N := some 61) (v := ?_) (a' := ?_) #[true, true, true, true, true, true, true, true, true, true, true, true, true, true, true, true, true, true, true, false, false, false, false, false, false, false, false, false, false, false, false, false, false, false, false, false, false, false, false, false, false, false, false, false, false, false, false, false, false, false, false, false, false, false, false, false, false, false, false, false, false, false, false, false] rfl rfl (any_of HT_.out (by kernel_rfl)) (fun _ _ _ h => h) (Or.inl ⟨by rfl, ?_⟩) ?_ ?_
                                  rotate_left
                                  · intro w'
                                    go_simp
                                    with_reducible rfl
                                  rotate_left
                                  · simp only [Act.put, List.setIfInBounds_toArray, List.set_cons_zero, List.set_cons_succ, i64_w, i32_w]
                                    rfl
                                  refine pure_ (i := 19) (N := some 62) (v := ?_) (a' := ?_) #[true, true, true, true, true, true, true, true, true, true, true, true, true, true, true, true, true, true, true, true, false, false, false, false, false, false, false, false, false, false, false, false, false, false, false, false, false, false, false, false, false, false, false, false, false, false, false, false, false, false, false, false, false, false, false, false, false, false, false, false, false, false, false, false] rfl rfl (any_of HT_.out (by kernel_rfl)) (fun _ _ _ h => h) (Or.inl ⟨by rfl, ?_⟩) ?_ ?_
                                  rotate_left
                                  · intro w'
                                    go_simp
                                    with_reducible rfl
                                  rotate_left
                                  · simp only [Act.put, List.setIfInBounds_toArray, List.set_cons_zero, List.set_cons_succ, i64_w, i32_w]
                                    rfl
                                  refine pure_ (i := 20) (N := some 63) (v := ?_) (a' := ?_) #[true, true, true, true, true, true, true, true, true, true, true, true, true, true, true, true, true, true, true, true, true, false, false, false, false, false, false, false, false, false, false, false, false, false, false, false, false, false, false, false, false, false, false, false, false, false, false, false, false, false, false, false, false, false, false, false, false, false, false, false, false, false, false, false] rfl rfl (any_of HT_.out (by kernel_rfl)) (fun _ _ _ h => h) (Or.inl ⟨by rfl, ?_⟩) ?_ ?_
                                  rotate_left
                                  · intro w'
                                    go_simp
                                    with_reducible rfl
                                  rotate_left
                                  · simp only [Act.put, List.setIfInBounds_toArray, List.set_cons_zero, List.set_cons_succ, i64_w, i32_w]
                                    rfl
                                  refine pure_ (i := 21) (N := some 64) (v := ?_) (a' := ?_) #[true, true, true, true, true, true, true, true, true, true, true, true, true, true, true, true, true, true, true, true, true, true, false, false, false, false, false, false, false, false, false, false, false, false, false, false, false, false, false, false, false, false, false, false, false, false, false, false, false, false, false, false, false, false, false, false, false, false, false, false, false, false, false, false] rfl rfl (any_of HT_.out (by kernel_rfl)) (fun _ _ _ h => h) (Or.inl ⟨by rfl, ?_⟩) ?_ ?_
                                  rotate_left
                                  · intro w'
                                    go_simp
                                    with_reducible rfl
                                  rotate_left
                                  · simp only [Act.put, List.setIfInBounds_toArray, List.set_cons_zero, List.set_cons_succ, i64_w, i32_w]
                                    rfl
                                  refine pure_ (i := 22) (N := some 65) (v := ?_) (a' := ?_) #[true, true, true, true, true, true, true, true, true, true, true, true, true, true, true, true, true, true, true, true, true, true, true, false, false, false, false, false, false, false, false, false, false, false, false, false, false, false, false, false, false, false, false, false, false, false, false, false, false, false, false, false, false, false, false, false, false, false, false, false, false, false, false, false] rfl rfl (any_of HT_.out (by kernel_rfl)) (fun _ _ _ h => h) (Or.inl ⟨by rfl, ?_⟩) ?_ ?_
                                  rotate_left
                                  · intro w'
                                    go_simp
                                    with_reducible rfl
                                  rotate_left
                                  · simp only [Act.put, List.setIfInBounds_toArray, List.set_cons_zero, List.set_cons_succ, i64_w, i32_w]
                                    rfl
                                  refine pure_ (i := 23) (N := some 66) (v := ?_) (a' := ?_) #[true, true, true, true, true, true, true, true, true, true, true, true, true, true, true, true, true, true, true, true, true, true, true, true, false, false, false, false, false, false, false, false, false, false, false, false, false, false, false, false, false, false, false, false, false, false, false, false, false, false, false, false, false, false, false, false, false, false, false, false, false, false, false, false] rfl rfl (any_of HT_.out (by kernel_rfl)) (fun _ _ _ h => h) (Or.inl ⟨by rfl, ?_⟩) ?_ ?_
                                  rotate_left
                                  · intro w'
                                    go_simp
                                    with_reducible rfl
                                  rotate_left
                                  · simp only [Act.put, List.setIfInBounds_toArray, List.set_cons_zero, List.set_cons_succ, i64_w, i32_w]
                                    rfl
                                  refine pure_ (i := 24) (N := some 67) (v := ?_) (a' := ?_) #[true, true, true, true, true, true, true, true, true, true, true, true, true, true, true, true, true, true, true, true, true, true, true, true, true, false, false, false, false, false, false, false, false, false, false, false, false, false, false, false, false, false, false, false, false, false, false, false, false, false, false, false, false, false, false, false, false, false, false, false, false, false, false, false] rfl rfl (any_of HT_.out (by kernel_rfl)) (fun _ _ _ h => h) (Or.inl ⟨by rfl, ?_⟩) ?_ ?_
                                  rotate_left
                                  · intro w'
                                    go_simp
                                    with_reducible rfl
                                  rotate_left
                                  · simp only [Act.put, List.setIfInBounds_toArray, List.set_cons_zero, List.set_cons_succ, i64_w, i32_w]
                                    rfl
                                  refine pure_ (i := 25) (N := some 68) (v := ?_) (a' := ?_) #[true, true, true, true, true, true, true, true, true, true, true, true, true, true, true, true, true, true, true, true, true, true, true, true, true, true, false, false, false, false, false, false, false, false, false, false, false, false, false, false, false, false, false, false, false, false, false, false, false, false, false, false, false, false, false, false, false, false, false, false, false, false, false, false] rfl rfl (any_of HT_.out (by kernel_rfl)) (fun _ _ _ h => h) (Or.inl ⟨by rfl, ?_⟩) ?_ ?_
                                  rotate_left
                                  · intro w'
                                    go_simp
                                    with_reducible rfl
                                  rotate_left
                                  · simp only [Act.put, List.setIfInBounds_toArray, List.set_cons_zero, List.set_cons_succ, i64_w, i32_w]
                                    rfl
                                  refine pure_ (i := 26) (N := some 69) (v := ?_) (a' := ?_) #[true, true, true, true, true, true, true, true, true, true, true, true, true, true, true, true, true, true, true, true, true, true, true, true, true, true, true, false, false, false, false, false, false, false, false, false, false, false, false, false, false, false, false, false, false, false, false, false, false, false, false, false, false, false, false, false, false, false, false, false, false, false, false, false] rfl rfl (any_of HT_.out (by kernel_rfl)) (fun _ _ _ h => h) (Or.inl ⟨by rfl, ?_⟩) ?_ ?_
                                  rotate_left
                                  · intro w'
                                    go_simp
                                    with_reducible rfl
                                  rotate_left
                                  · simp only [Act.put, List.setIfInBounds_toArray, List.set_cons_zero, List.set_cons_succ, i64_w, i32_w]
                                    rfl
                                  refine pure_ (i := 27) (N := some 70) (v := ?_) (a' := ?_) #[true, true, true, true, true, true, true, true, true, true, true, true, true, true, true, true, true, true, true, true, true, true, true, true, true, true, true, true, false, false, false, false, false, false, false, false, false, false, false, false, false, false, false, false, false, false, false, false, false, false, false, false, false, false, false, false, false, false, false, false, false, false, false, false] rfl rfl (any_of HT_.out (by kernel_rfl)) (fun _ _ _ h => h) (Or.inl ⟨by rfl, ?_⟩) ?_ ?_
                                  rotate_left
                                  · intro w'
                                    go_simp
                                    with_reducible rfl
                                  rotate_left
                                  · simp only [Act.put, List.setIfInBounds_toArray, List.set_cons_zero, List.set_cons_succ, i64_w, i32_w]
                                    rfl
                                  refine pure_ (i := 28) (N := some 71) (v := ?_) (a' := ?_) #[true, true, true, true, true, true, true, true, true, true, true, true, true, true, true, true, true, true, true, true, true, true, true, true, true, true, true, true, true, false, false, false, false, false, false, false, false, false, false, false, false, false, false, false, false, false, false, false, false, false, false, false, false, false, false, false, false, false, false, false, false, false, false, false] rfl rfl (any_of HT_.out (by kernel_rfl)) (fun _ _ _ h => h) (Or.inl ⟨by rfl, ?_⟩) ?_ ?_
                                  rotate_left
                                  · intro w'
                                    go_simp
                                    with_reducible rfl
                                  rotate_left
                                  · simp only [Act.put, List.setIfInBounds_toArray, List.set_cons_zero, List.set_cons_succ, i64_w, i32_w]
                                    rfl
                                  refine pure_ (i := 29) (N := some 72) (v := ?_) (a' := ?_) #[true, true, true, true, true, true, true, true, true, true, true, true, true, true, true, true, true, true, true, true, true, true, true, true, true, true, true, true, true, true, false, false, false, false, false, false, false, false, false, false, false, false, false, false, false, false, false, false, false, false, false, false, false, false, false, false, false, false, false, false, false, false, false, false] rfl rfl (any_of HT_.out (by kernel_rfl)) (fun _ _ _ h => h) (Or.inl ⟨by rfl, ?_⟩) ?_ ?_
                                  rotate_left
                                  · intro w'
                                    go_simp
                                    with_reducible rfl
                                  rotate_left
                                  · simp only [Act.put, List.setIfInBounds_toArray, List.set_cons_zero, List.set_cons_succ, i64_w, i32_w]
                                    rfl
                                  refine pure_ (i := 30) (N := some 73) (v := ?_) (a' := ?_) #[true, true, true, true, true, true, true, true, true, true, true, true, true, true, true, true, true, true, true, true, true, true, true, true, true, true, true, true, true, true, true, false, false, false, false, false, false, false, false, false, false, false, false, false, false, false, false, false, false, false, false, false, false, false, false, false, false, false, false, false, false, false, false, false] rfl rfl (any_of HT_.out (by kernel_rfl)) (fun _ _ _ h => h) (Or.inl ⟨by rfl, ?_⟩) ?_ ?_
                                  rotate_left
                                  · intro w'
                                    go_simp
                                    with_reducible rfl
                                  rotate_left
                                  · simp only [Act.put, List.setIfInBounds_toArray, List.set_cons_zero, List.set_cons_succ, i64_w, i32_w]
                                    rfl
                                  refine pure_ (i := 31) (N := some 74) (v := ?_) (a' := ?_) #[true, true, true, true, true, true, true, true, true, true, true, true, true, true, true, true, true, true, true, true, true, true, true, true, true, true, true, true, true, true, true, true, false, false, false, false, false, false, false, false, false, false, false, false, false, false, false, false, false, false, false, false, false, false, false, false, false, false, false, false, false, false, false, false] rfl rfl (any_of HT_.out (by kernel_rfl)) (fun _ _ _ h => h) (Or.inl ⟨by rfl, ?_⟩) ?_ ?_
                                  rotate_left
                                  · intro w'
                                    go_simp
                                    with_reducible rfl
                                  rotate_left
                                  · simp only [Act.put, List.setIfInBounds_toArray, List.set_cons_zero, List.set_cons_succ, i64_w, i32_w]
                                    rfl
                                  refine pure_ (i := 32) (N := some 75) (v := ?_) (a' := ?_) #[true, true, true, true, true, true, true, true, true, true, true, true, true, true, true, true, true, true, true, true, true, true, true, true, true, true, true, true, true, true, true, true, true, false, false, false, false, false, false, false, false, false, false, false, false, false, false, false, false, false, false, false, false, false, false, false, false, false, false, false, false, false, false, false] rfl rfl (any_of HT_.out (by kernel_rfl)) (fun _ _ _ h => h) (Or.inl ⟨by rfl, ?_⟩) ?_ ?_
                                  rotate_left
                                  · intro w'
                                    go_simp
                                    with_reducible rfl
                                  rotate_left
                                  · simp only [Act.put, List.setIfInBounds_toArray, List.set_cons_zero, List.set_cons_succ, i64_w, i32_w]
                                    rfl
                                  refine pure_ (i := 33) (N := some 76) (v := ?_) (a' := ?_) #[true, true, true, true, true, true, true, true, true, true, true, true, true, true, true, true, true, true, true, true, true, true, true, true, true, true, true, true, true, true, true, true, true, true, false, false, false, false, false, false, false, false, false, false, false, false, false, false, false, false, false, false, false, false, false, false, false, false, false, false, false, false, false, false] rfl rfl (any_of HT_.out (by kernel_rfl)) (fun _ _ _ h => h) (Or.inl ⟨by rfl, ?_⟩) ?_ ?_
                                  rotate_left
                                  · intro w'
                                    go_simp
                                    with_reducible rfl
                                  rotate_left
                                  · simp only [Act.put, List.setIfInBounds_toArray, List.set_cons_zero, List.set_cons_succ, i64_w, i32_w]
                                    rfl
                                  refine pure_ (i := 34) (N := some 77) (v := ?_) (a' := ?_) #[true, true, true, true, true, true, true, true, true, true, true, true, true, true, true, true, true, true, true, true, true, true, true, true, true, true, true, true, true, true, true, true, true, true, true, false, false, false, false, false, false, false, false, false, false, false, false, false, false, false, false, false, false, false, false, false, false, false, false, false, false, false, false, false] rfl rfl (any_of HT_.out (by kernel_rfl)) (fun _ _ _ h => h) (Or.inl ⟨by rfl, ?_⟩) ?_ ?_
                                  rotate_left
                                  · intro w'
                                    go_simp
                                    with_reducible rfl
                                  rotate_left
                                  · simp only [Act.put, List.setIfInBounds_toArray, List.set_cons_zero, List.set_cons_succ, i64_w, i32_w]
                                    rfl
                                  refine pure_ (i := 35) (N := some 78) (v := ?_) (a' := ?_) #[true, true, true, true, true, true, true, true, true, true, true, true, true, true, true, true, true, true, true, true, true, true, true, true, true, true, true, true, true, true, true, true, true, true, true, true, false, false, false, false, false, false, false, false, false, false, false, false, false, false, false, false, false, false, false, false, false, false, false, false, false, false, false, false] rfl rfl (any_of HT_.out (by kernel_rfl)) (fun _ _ _ h => h) (Or.inl ⟨by rfl, ?_⟩) ?_ ?_
                                  rotate_left
                                  · intro w'
                                    go_simp
                                    with_reducible rfl
                                  rotate_left
                                  · simp only [Act.put, List.setIfInBounds_toArray, List.set_cons_zero, List.set_cons_succ, i64_w, i32_w]
                                    rfl
                                  refine pure_ (i := 36) (N := some 79) (v := ?_) (a' := ?_) #[true, true, true, true, true, true, true, true, true, true, true, true, true, true, true, true, true, true, true, true, true, true, true, true, true, true, true, true, true, true, true, true, true, true, true, true, true, false, false, false, false, false, false, false, false, false, false, false, false, false, false, false, false, false, false, false, false, false, false, false, false, false, false, false] rfl rfl (any_of HT_.out (by kernel_rfl)) (fun _ _ _ h => h) (Or.inl ⟨by rfl, ?_⟩) ?_ ?_
                                  rotate_left
                                  · intro w'
                                    go_simp
                                    with_reducible rfl
                                  rotate_left
                                  · simp only [Act.put, List.setIfInBounds_toArray, List.set_cons_zero, List.set_cons_succ, i64_w, i32_w]
                                    rfl
                                  refine pure_ (i := 37) (N := some 80) (v := ?_) (a' := ?_) #[true, true, true, true, true, true, true, true, true, true, true, true, true, true, true, true, true, true, true, true, true, true, true, true, true, true, true, true, true, true, true, true, true, true, true, true, true, true, false, false, false, false, false, false, false, false, false, false, false, false, false, false, false, false, false, false, false, false, false, false, false, false, false, false] rfl rfl (any_of HT_.out (by kernel_rfl)) (fun _ _ _ h => h) (Or.inl ⟨by rfl, ?_⟩) ?_ ?_
                                  rotate_left
                                  · intro w'
                                    go_simp
                                    with_reducible rfl
                                  rotate_left
                                  · simp only [Act.put, List.setIfInBounds_toArray, List.set_cons_zero, List.set_cons_succ, i64_w, i32_w]
                                    rfl
                                  refine pure_ (i := 38) (N := some 81) (v := ?_) (a' := ?_) #[true, true, true, true, true, true, true, true, true, true, true, true, true, true, true, true, true, true, true, true, true, true, true, true, true, true, true, true, true, true, true, true, true, true, true, true, true, true, true, false, false, false, false, false, false, false, false, false, false, false, false, false, false, false, false, false, false, false, false, false, false, false, false, false] rfl rfl (any_of HT_.out (by kernel_rfl)) (fun _ _ _ h => h) (Or.inl ⟨by rfl, ?_⟩) ?_ ?_
                                  rotate_left
                                  · intro w'
                                    go_simp
                                    with_reducible rfl
                                  rotate_left
                                  · simp only [Act.put, List.setIfInBounds_toArray, List.set_cons_zero, List.set_cons_succ, i64_w, i32_w]
                                    rfl
                                  refine pure_ (i := 39) (N := some 82) (v := ?_) (a' := ?_) #[true, true, true, true, true, true, true, true, true, true, true, true, true, true, true, true, true, true, true, true, true, true, true, true, true, true, true, true, true, true, true, true, true, true, true, true, true, true, true, true, false, false, false, false, false, false, false, false, false, false, false, false, false, false, false, false, false, false, false, false, false, false, false, false] rfl rfl (any_of HT_.out (by kernel_rfl)) (fun _ _ _ h => h) (Or.inl ⟨by rfl, ?_⟩) ?_ ?_
                                  rotate_left
                                  · intro w'
                                    go_simp
                                    with_reducible rfl
                                  rotate_left
                                  · simp only [Act.put, List.setIfInBounds_toArray, List.set_cons_zero, List.set_cons_succ, i64_w, i32_w]
                                    rfl
                                  refine pure_ (i := 40) (N := some 83) (v := ?_) (a' := ?_) #[true, true, true, true, true, true, true, true, true, true, true, true, true, true, true, true, true, true, true, true, true, true, true, true, true, true, true, true, true, true, true, true, true, true, true, true, true, true, true, true, true, false, false, false, false, false, false, false, false, false, false, false, false, false, false, false, false, false, false, false, false, false, false, false] rfl rfl (any_of HT_.out (by kernel_rfl)) (fun _ _ _ h => h) (Or.inl ⟨by rfl, ?_⟩) ?_ ?_
                                  rotate_left
                                  · intro w'
                                    go_simp
                                    with_reducible rfl
                                  rotate_left
                                  · simp only [Act.put, List.setIfInBounds_toArray, List.set_cons_zero, List.set_cons_succ, i64_w, i32_w]
                                    rfl
                                  refine pure_ (i := 41) (N := some 84) (v := ?_) (a' := ?_) #[true, true, true, true, true, true, true, true, true, true, true, true, true, true, true, true, true, true, true, true, true, true, true, true, true, true, true, true, true, true, true, true, true, true, true, true, true, true, true, true, true, true, false, false, false, false, false, false, false, false, false, false, false, false, false, false, false, false, false, false, false, false, false, false] rfl rfl (any_of HT_.out (by kernel_rfl)) (fun _ _ _ h => h) (Or.inl ⟨by rfl, ?_⟩) ?_ ?_
                                  rotate_left
                                  · intro w'
                                    go_simp
                                    with_reducible rfl
                                  rotate_left
                                  · simp only [Act.put, List.setIfInBounds_toArray, List.set_cons_zero, List.set_cons_succ, i64_w, i32_w]
                                    rfl
                                  refine take_ (i := 42) (N := some 85) (v := ?_) (a' := ?_) #[true, true, true, true, true, true, true, true, true, true, true, true, true, true, true, true, true, true, true, true, true, true, true, true, true, true, true, true, true, true, true, true, true, true, true, true, true, true, true, true, true, true, true, false, false, false, false, false, false, false, false, false, false, false, false, false, false, false, false, false, false, false, false, false] rfl rfl (take_ofW HT_.out HW_.out (by kernel_rfl)) (fun _ _ _ h => h) (Or.inl ⟨by rfl, ?_⟩) hHeld ?_ ?_
                                  rotate_left
                                  · rintro w' ⟨s0, s1, s2, s3, s4, s5, s6, s7⟩
                                    go_simp
                                    with_reducible rfl
                                  rotate_left
                                  · simp only [Act.put, List.setIfInBounds_toArray, List.set_cons_zero, List.set_cons_succ, i64_w, i32_w]
                                    rfl
                                  refine one_ (i := 43) (N := some 86) #[true, true, true, true, true, true, true, true, true, true, true, true, true, true, true, true, true, true, true, true, true, true, true, true, true, true, true, true, true, true, true, true, true, true, true, true, true, true, true, true, true, true, true, true, false, false, false, false, false, false, false, false, false, false, false, false, false, false, false, false, false, false, false, false] rfl rfl (one_of HT_.out (by kernel_rfl)) (by decide) (fun K hK => ?_)
                                  refine goes_ Try.func16 (by kernel_rfl) rfl #[.agg #[.int .u16 277, .int .u8 2, .int .u8 3, .int .u32 67305985]] (by rfl) rfl rfl (by (try simp only [List.map_toArray, List.map_cons, List.map_nil]); first | done | rfl | (simp only [List.length_drop, List.length_take]; rfl)) ?_
                                  with_reducible refine (instr_Class.calls 277 2 3 67305985 t142 _ A20.out).mono ?_
                                  rintro e w40 ⟨rfl, hb⟩
                                  have HS4_ := (hb.cell (World.block_lt_of_cell? _ _ (hHeld.2.2.2.2.1))).trans (hHeld.2.2.2.2.1)
                                  have HS5_ := (hb.cell (World.block_lt_of_cell? _ _ (hHeld.2.2.2.2.2.1))).trans (hHeld.2.2.2.2.2.1)
                                  have HS6_ := (hb.cell (World.block_lt_of_cell? _ _ (hHeld.2.2.2.2.2.2.1))).trans (hHeld.2.2.2.2.2.2.1)
                                  have HS7_ := (hb.cell (World.block_lt_of_cell? _ _ (hHeld.2.2.2.2.2.2.2))).trans (hHeld.2.2.2.2.2.2.2)
                                  refine ⟨_, rfl, ?_⟩
                                  have n0_ := Aside0.mk (Kd.R_below (by (with_reducible repeat (first | apply Kd.R_alloc | apply Kd.R_drewN | apply Kd.R_drew)); exact HO127.out) hb)
                                  have n1_ := Aside0.mk (Kd.R_below (by (with_reducible repeat (first | apply Kd.R_alloc | apply Kd.R_drewN | apply Kd.R_drew)); exact HO131.out) hb)
                                  have n2_ := Aside0.mk (Kd.R_below (by (with_reducible repeat (first | apply Kd.R_alloc | apply Kd.R_drewN | apply Kd.R_drew)); exact HO136.out) hb)
                                  have n3_ := Aside0.mk (blk_below (g := gb122) (o := .cells #[.int .u16 277, .int .u8 2, .int .u8 3, .int .u32 67305985] 39 (0, 0)) (by (with_reducible repeat (first | refine blk_drewN ?_ _ | refine blk_drew ?_ | refine blk_alloc ?_ _)); exact BK122.out) hb)
                                  have n4_ := Aside0.mk (below_step (by repeat (first | (with_reducible first | exact HB.out | apply below_alloc | apply pw_below_drewN | apply below_drew1 | refine below_set ?_ GE122.out) | exact HB.out)) hb)
                                  clear HO127
                                  clear HO131
                                  clear HO136
                                  clear BK122
                                  clear HB
                                  have HO127 := n0_
                                  have HO131 := n1_
                                  have HO136 := n2_
                                  have BK122 := n3_
                                  have HB := n4_
                                  clear n0_ n1_ n2_ n3_ n4_
                                  (try clear hb)
                                  (try clear hb2)
                                  (try clear hk)
                                  (try clear hi)
                                  refine hK.out _ _ ⟨(blk_cell BK122.out 0).trans rfl, (blk_cell BK122.out 1).trans rfl, (blk_cell BK122.out 2).trans rfl, (blk_cell BK122.out 3).trans rfl, HS4_, HS5_, HS6_, HS7_⟩ (fun hHeld => ?_)
                                  clear hK K
                                  refine norm_ (a' := ?_) ?_ ?_
                                  rotate_left
                                  · show Act.put _ (some 86) _ = _
                                    simp only [Act.put, List.setIfInBounds_toArray, List.set_cons_zero, List.set_cons_succ, i64_w, i32_w]
                                    rfl
                                  refine pure_ (i := 44) (N := some 87) (v := ?_) (a' := ?_) #[true, true, true, true, true, true, true, true, true, true, true, true, true, true, true, true, true, true, true, true, true, true, true, true, true, true, true, true, true, true, true, true, true, true, true, true, true, true, true, true, true, true, true, true, true, false, false, false, false, false, false, false, false, false, false, false, false, false, false, false, false, false, false, false] rfl rfl (any_of HT_.out (by kernel_rfl)) (fun _ _ _ h => h) (Or.inl ⟨by rfl, ?_⟩) ?_ ?_
                                  rotate_left
                                  · intro w'
                                    go_simp
                                    with_reducible rfl
                                  rotate_left
                                  · simp only [Act.put, List.setIfInBounds_toArray, List.set_cons_zero, List.set_cons_succ, i64_w, i32_w]
                                    rfl
                                  refine pure_ (i := 45) (N := some 88) (v := ?_) (a' := ?_) #[true, true, true, true, true, true, true, true, true, true, true, true, true, true, true, true, true, true, true, true, true, true, true, true, true, true, true, true, true, true, true, true, true, true, true, true, true, true, true, true, true, true, true, true, true, true, false, false, false, false, false, false, false, false, false, false, false, false, false, false, false, false, false, false] rfl rfl (any_of HT_.out (by kernel_rfl)) (fun _ _ _ h => h) (Or.inl ⟨by rfl, ?_⟩) ?_ ?_
                                  rotate_left
                                  · intro w'
                                    go_simp
                                    with_reducible rfl
                                  rotate_left
                                  · simp only [Act.put, List.setIfInBounds_toArray, List.set_cons_zero, List.set_cons_succ, i64_w, i32_w]
                                    rfl
                                  refine pure_ (i := 46) (N := some 89) (v := ?_) (a' := ?_) #[true, true, true, true, true, true, true, true, true, true, true, true, true, true, true, true, true, true, true, true, true, true, true, true, true, true, true, true, true, true, true, true, true, true, true, true, true, true, true, true, true, true, true, true, true, true, true, false, false, false, false, false, false, false, false, false, false, false, false, false, false, false, false, false] rfl rfl (any_of HT_.out (by kernel_rfl)) (fun _ _ _ h => h) (Or.inl ⟨by rfl, ?_⟩) ?_ ?_
                                  rotate_left
                                  · intro w'
                                    go_simp
                                    with_reducible rfl
                                  rotate_left
                                  · simp only [Act.put, List.setIfInBounds_toArray, List.set_cons_zero, List.set_cons_succ, i64_w, i32_w]
                                    rfl
                                  refine take_ (i := 47) (N := some 90) (v := ?_) (a' := ?_) #[true, true, true, true, true, true, true, true, true, true, true, true, true, true, true, true, true, true, true, true, true, true, true, true, true, true, true, true, true, true, true, true, true, true, true, true, true, true, true, true, true, true, true, true, true, true, true, true, false, false, false, false, false, false, false, false, false, false, false, false, false, false, false, false] rfl rfl (take_ofW HT_.out HW_.out (by kernel_rfl)) (fun _ _ _ h => h) (Or.inl ⟨by rfl, ?_⟩) hHeld ?_ ?_
                                  rotate_left
                                  · rintro w' ⟨s0, s1, s2, s3, s4, s5, s6, s7⟩
                                    go_simp
                                    with_reducible rfl
                                  rotate_left
                                  · simp only [Act.put, List.setIfInBounds_toArray, List.set_cons_zero, List.set_cons_succ, i64_w, i32_w]
                                    rfl
                                  refine one_ (i := 48) (N := some 91) #[true, true, true, true, true, true, true, true, true, true, true, true, true, true, true, true, true, true, true, true, true, true, true, true, true, true, true, true, true, true, true, true, true, true, true, true, true, true, true, true, true, true, true, true, true, true, true, true, true, false, false, false, false, false, false, false, false, false, false, false, false, false, false, false] rfl rfl (one_of HT_.out (by kernel_rfl)) (by decide) (fun K hK => ?_)
                                  refine goes_ Try.func17 (by kernel_rfl) rfl #[.agg #[.int .u16 277, .int .u8 2, .int .u8 3, .int .u32 67305985]] (by rfl) rfl rfl (by (try simp only [List.map_toArray, List.map_cons, List.map_nil]); first | done | rfl | (simp only [List.length_drop, List.length_take]; rfl)) ?_
                                  with_reducible refine (instr_Op.calls 277 2 3 67305985 t143 _ A22.out).mono ?_
                                  rintro e w41 ⟨rfl, hb⟩
                                  have HS4_ := (hb.cell (World.block_lt_of_cell? _ _ (hHeld.2.2.2.2.1))).trans (hHeld.2.2.2.2.1)
                                  have HS5_ := (hb.cell (World.block_lt_of_cell? _ _ (hHeld.2.2.2.2.2.1))).trans (hHeld.2.2.2.2.2.1)
                                  have HS6_ := (hb.cell (World.block_lt_of_cell? _ _ (hHeld.2.2.2.2.2.2.1))).trans (hHeld.2.2.2.2.2.2.1)
                                  have HS7_ := (hb.cell (World.block_lt_of_cell? _ _ (hHeld.2.2.2.2.2.2.2))).trans (hHeld.2.2.2.2.2.2.2)
                                  refine ⟨_, rfl, ?_⟩
                                  have n0_ := Aside0.mk (Kd.R_below (by (with_reducible repeat (first | apply Kd.R_alloc | apply Kd.R_drewN | apply Kd.R_drew)); exact HO127.out) hb)
                                  have n1_ := Aside0.mk (Kd.R_below (by (with_reducible repeat (first | apply Kd.R_alloc | apply Kd.R_drewN | apply Kd.R_drew)); exact HO131.out) hb)
                                  have n2_ := Aside0.mk (Kd.R_below (by (with_reducible repeat (first | apply Kd.R_alloc | apply Kd.R_drewN | apply Kd.R_drew)); exact HO136.out) hb)
                                  have n3_ := Aside0.mk (blk_below (g := gb122) (o := .cells #[.int .u16 277, .int .u8 2, .int .u8 3, .int .u32 67305985] 39 (0, 0)) (by (with_reducible repeat (first | refine blk_drewN ?_ _ | refine blk_drew ?_ | refine blk_alloc ?_ _)); exact BK122.out) hb)
                                  have n4_ := Aside0.mk (below_step (by repeat (first | (with_reducible first | exact HB.out | apply below_alloc | apply pw_below_drewN | apply below_drew1 | refine below_set ?_ GE122.out) | exact HB.out)) hb)
                                  clear HO127
                                  clear HO131
                                  clear HO136
                                  clear BK122
                                  clear HB
                                  have HO127 := n0_
                                  have HO131 := n1_
                                  have HO136 := n2_
                                  have BK122 := n3_
                                  have HB := n4_
                                  clear n0_ n1_ n2_ n3_ n4_
                                  (try clear hb)
                                  (try clear hb2)
                                  (try clear hk)
                                  (try clear hi)
                                  refine hK.out _ _ ⟨(blk_cell BK122.out 0).trans rfl, (blk_cell BK122.out 1).trans rfl, (blk_cell BK122.out 2).trans rfl, (blk_cell BK122.out 3).trans rfl, HS4_, HS5_, HS6_, HS7_⟩ (fun hHeld => ?_)
                                  clear hK K
                                  refine norm_ (a' := ?_) ?_ ?_
                                  rotate_left
                                  · show Act.put _ (some 91) _ = _
                                    simp only [Act.put, List.setIfInBounds_toArray, List.set_cons_zero, List.set_cons_succ, i64_w, i32_w]
                                    rfl
                                  refine pure_ (i := 49) (N := some 92) (v := ?_) (a' := ?_) #[true, true, true, true, true, true, true, true, true, true, true, true, true, true, true, true, true, true, true, true, true, true, true, true, true, true, true, true, true, true, true, true, true, true, true, true, true, true, true, true, true, true, true, true, true, true, true, true, true, true, false, false, false, false, false, false, false, false, false, false, false, false, false, false] rfl rfl (any_of HT_.out (by kernel_rfl)) (fun _ _ _ h => h) (Or.inl ⟨by rfl, ?_⟩) ?_ ?_
                                  rotate_left
                                  · intro w'
                                    go_simp
                                    with_reducible rfl
                                  rotate_left
                                  · simp only [Act.put, List.setIfInBounds_toArray, List.set_cons_zero, List.set_cons_succ, i64_w, i32_w]
                                    rfl
                                  refine pure_ (i := 50) (N := some 93) (v := ?_) (a' := ?_) #[true, true, true, true, true, true, true, true, true, true, true, true, true, true, true, true, true, true, true, true, true, true, true, true, true, true, true, true, true, true, true, true, true, true, true, true, true, true, true, true, true, true, true, true, true, true, true, true, true, true, true, false, false, false, false, false, false, false, false, false, false, false, false, false] rfl rfl (any_of HT_.out (by kernel_rfl)) (fun _ _ _ h => h) (Or.inl ⟨by rfl, ?_⟩) ?_ ?_
                                  rotate_left
                                  · intro w'
                                    go_simp
                                    with_reducible rfl
                                  rotate_left
                                  · simp only [Act.put, List.setIfInBounds_toArray, List.set_cons_zero, List.set_cons_succ, i64_w, i32_w]
                                    rfl
                                  refine pure_ (i := 51) (N := some 94) (v := ?_) (a' := ?_) #[true, true, true, true, true, true, true, true, true, true, true, true, true, true, true, true, true, true, true, true, true, true, true, true, true, true, true, true, true, true, true, true, true, true, true, true, true, true, true, true, true, true, true, true, true, true, true, true, true, true, true, true, false, false, false, false, false, false, false, false, false, false, false, false] rfl rfl (any_of HT_.out (by kernel_rfl)) (fun _ _ _ h => h) (Or.inl ⟨by rfl, ?_⟩) ?_ ?_
                                  rotate_left
                                  · intro w'
                                    go_simp
                                    with_reducible rfl
                                  rotate_left
                                  · simp only [Act.put, List.setIfInBounds_toArray, List.set_cons_zero, List.set_cons_succ, i64_w, i32_w]
                                    rfl
                                  refine take_ (i := 52) (N := some 95) (v := ?_) (a' := ?_) #[true, true, true, true, true, true, true, true, true, true, true, true, true, true, true, true, true, true, true, true, true, true, true, true, true, true, true, true, true, true, true, true, true, true, true, true, true, true, true, true, true, true, true, true, true, true, true, true, true, true, true, true, true, false, false, false, false, false, false, false, false, false, false, false] rfl rfl (take_ofW HT_.out HW_.out (by kernel_rfl)) (fun _ _ _ h => h) (Or.inl ⟨by rfl, ?_⟩) hHeld ?_ ?_
                                  rotate_left
                                  · rintro w' ⟨s0, s1, s2, s3, s4, s5, s6, s7⟩
                                    go_simp
                                    with_reducible rfl
                                  rotate_left
                                  · simp only [Act.put, List.setIfInBounds_toArray, List.set_cons_zero, List.set_cons_succ, i64_w, i32_w]
                                    rfl
                                  refine one_ (i := 53) (N := some 96) #[true, true, true, true, true, true, true, true, true, true, true, true, true, true, true, true, true, true, true, true, true, true, true, true, true, true, true, true, true, true, true, true, true, true, true, true, true, true, true, true, true, true, true, true, true, true, true, true, true, true, true, true, true, true, false, false, false, false, false, false, false, false, false, false] rfl rfl (one_of HT_.out (by kernel_rfl)) (by decide) (fun K hK => ?_)
                                  refine goes_ Try.func15 (by kernel_rfl) rfl #[.agg #[.int .u16 277, .int .u8 2, .int .u8 3, .int .u32 67305985]] (by rfl) rfl rfl (by (try simp only [List.map_toArray, List.map_cons, List.map_nil]); first | done | rfl | (simp only [List.length_drop, List.length_take]; rfl)) ?_
                                  with_reducible refine (instr_FromX.calls 277 2 3 67305985 false _ A24.out).mono ?_
                                  rintro e w42 ⟨rfl, hb⟩
                                  have HS4_ := (hb.cell (World.block_lt_of_cell? _ _ (hHeld.2.2.2.2.1))).trans (hHeld.2.2.2.2.1)
                                  have HS5_ := (hb.cell (World.block_lt_of_cell? _ _ (hHeld.2.2.2.2.2.1))).trans (hHeld.2.2.2.2.2.1)
                                  have HS6_ := (hb.cell (World.block_lt_of_cell? _ _ (hHeld.2.2.2.2.2.2.1))).trans (hHeld.2.2.2.2.2.2.1)
                                  have HS7_ := (hb.cell (World.block_lt_of_cell? _ _ (hHeld.2.2.2.2.2.2.2))).trans (hHeld.2.2.2.2.2.2.2)
                                  refine ⟨_, rfl, ?_⟩
                                  have n0_ := Aside0.mk (Kd.R_below (by (with_reducible repeat (first | apply Kd.R_alloc | apply Kd.R_drewN | apply Kd.R_drew)); exact HO127.out) hb)
                                  have n1_ := Aside0.mk (Kd.R_below (by (with_reducible repeat (first | apply Kd.R_alloc | apply Kd.R_drewN | apply Kd.R_drew)); exact HO131.out) hb)
                                  have n2_ := Aside0.mk (Kd.R_below (by (with_reducible repeat (first | apply Kd.R_alloc | apply Kd.R_drewN | apply Kd.R_drew)); exact HO136.out) hb)
                                  have n3_ := Aside0.mk (blk_below (g := gb122) (o := .cells #[.int .u16 277, .int .u8 2, .int .u8 3, .int .u32 67305985] 39 (0, 0)) (by (with_reducible repeat (first | refine blk_drewN ?_ _ | refine blk_drew ?_ | refine blk_alloc ?_ _)); exact BK122.out) hb)
                                  have n4_ := Aside0.mk (below_step (by repeat (first | (with_reducible first | exact HB.out | apply below_alloc | apply pw_below_drewN | apply below_drew1 | refine below_set ?_ GE122.out) | exact HB.out)) hb)
                                  clear HO127
                                  clear HO131
                                  clear HO136
                                  clear BK122
                                  clear HB
                                  have HO127 := n0_
                                  have HO131 := n1_
                                  have HO136 := n2_
                                  have BK122 := n3_
                                  have HB := n4_
                                  clear n0_ n1_ n2_ n3_ n4_
                                  (try clear hb)
                                  (try clear hb2)
                                  (try clear hk)
                                  (try clear hi)
                                  refine hK.out _ _ ⟨(blk_cell BK122.out 0).trans rfl, (blk_cell BK122.out 1).trans rfl, (blk_cell BK122.out 2).trans rfl, (blk_cell BK122.out 3).trans rfl, HS4_, HS5_, HS6_, HS7_⟩ (fun hHeld => ?_)
                                  clear hK K
                                  refine norm_ (a' := ?_) ?_ ?_
                                  rotate_left
                                  · show Act.put _ (some 96) _ = _
                                    simp only [Act.put, List.setIfInBounds_toArray, List.set_cons_zero, List.set_cons_succ, i64_w, i32_w]
                                    rfl
                                  refine pure_ (i := 54) (N := some 97) (v := ?_) (a' := ?_) #[true, true, true, true, true, true, true, true, true, true, true, true, true, true, true, true, true, true, true, true, true, true, true, true, true, true, true, true, true, true, true, true, true, true, true, true, true, true, true, true, true, true, true, true, true, true, true, true, true, true, true, true, true, true, true, false, false, false, false, false, false, false, false, false] rfl rfl (any_of HT_.out (by kernel_rfl)) (fun _ _ _ h => h) (Or.inl ⟨by rfl, ?_⟩) ?_ ?_
                                  rotate_left
                                  · intro w'
                                    go_simp
                                    with_reducible rfl
                                  rotate_left
                                  · simp only [Act.put, List.setIfInBounds_toArray, List.set_cons_zero, List.set_cons_succ, i64_w, i32_w]
                                    rfl
                                  refine pure_ (i := 55) (N := some 98) (v := ?_) (a' := ?_) #[true, true, true, true, true, true, true, true, true, true, true, true, true, true, true, true, true, true, true, true, true, true, true, true, true, true, true, true, true, true, true, true, true, true, true, true, true, true, true, true, true, true, true, true, true, true, true, true, true, true, true, true, true, true, true, true, false, false, false, false, false, false, false, false] rfl rfl (any_of HT_.out (by kernel_rfl)) (fun _ _ _ h => h) (Or.inl ⟨by rfl, ?_⟩) ?_ ?_
                                  rotate_left
                                  · intro w'
                                    go_simp
                                    with_reducible rfl
                                  rotate_left
                                  · simp only [Act.put, List.setIfInBounds_toArray, List.set_cons_zero, List.set_cons_succ, i64_w, i32_w]
                                    rfl
                                  refine pure_ (i := 56) (N := some 99) (v := ?_) (a' := ?_) #[true, true, true, true, true, true, true, true, true, true, true, true, true, true, true, true, true, true, true, true, true, true, true, true, true, true, true, true, true, true, true, true, true, true, true, true, true, true, true, true, true, true, true, true, true, true, true, true, true, true, true, true, true, true, true, true, true, false, false, false, false, false, false, false] rfl rfl (any_of HT_.out (by kernel_rfl)) (fun _ _ _ h => h) (Or.inl ⟨by rfl, ?_⟩) ?_ ?_
                                  rotate_left
                                  · intro w'
                                    go_simp
                                    with_reducible rfl
                                  rotate_left
                                  · simp only [Act.put, List.setIfInBounds_toArray, List.set_cons_zero, List.set_cons_succ, i64_w, i32_w]
                                    rfl
                                  refine pure_ (i := 57) (N := some 100) (v := ?_) (a' := ?_) #[true, true, true, true, true, true, true, true, true, true, true, true, true, true, true, true, true, true, true, true, true, true, true, true, true, true, true, true, true, true, true, true, true, true, true, true, true, true, true, true, true, true, true, true, true, true, true, true, true, true, true, true, true, true, true, true, true, true, false, false, false, false, false, false] rfl rfl (any_of HT_.out (by kernel_rfl)) (fun _ _ _ h => h) (Or.inl ⟨by rfl, ?_⟩) ?_ ?_
                                  rotate_left
                                  · intro w'
                                    go_simp
                                    with_reducible rfl
                                  rotate_left
                                  · simp only [Act.put, List.setIfInBounds_toArray, List.set_cons_zero, List.set_cons_succ, i64_w, i32_w]
                                    rfl
                                  refine take_ (i := 58) (N := some 101) (v := ?_) (a' := ?_) #[true, true, true, true, true, true, true, true, true, true, true, true, true, true, true, true, true, true, true, true, true, true, true, true, true, true, true, true, true, true, true, true, true, true, true, true, true, true, true, true, true, true, true, true, true, true, true, true, true, true, true, true, true, true, true, true, true, true, true, false, false, false, false, false] rfl rfl (take_ofW HT_.out HW_.out (by kernel_rfl)) (fun _ _ _ h => h) (Or.inl ⟨by rfl, ?_⟩) hHeld ?_ ?_
                                  rotate_left
                                  · rintro w' ⟨s0, s1, s2, s3, s4, s5, s6, s7⟩
                                    go_simp
                                    with_reducible rfl
                                  rotate_left
                                  · simp only [Act.put, List.setIfInBounds_toArray, List.set_cons_zero, List.set_cons_succ, i64_w, i32_w]
                                    rfl
                                  refine take_ (i := 59) (N := some 102) (v := ?_) (a' := ?_) #[true, true, true, true, true, true, true, true, true, true, true, true, true, true, true, true, true, true, true, true, true, true, true, true, true, true, true, true, true, true, true, true, true, true, true, true, true, true, true, true, true, true, true, true, true, true, true, true, true, true, true, true, true, true, true, true, true, true, true, true, false, false, false, false] rfl rfl (take_ofW HT_.out HW_.out (by kernel_rfl)) (fun _ _ _ h => h) (Or.inl ⟨by rfl, ?_⟩) hHeld ?_ ?_
                                  rotate_left
                                  · rintro w' ⟨s0, s1, s2, s3, s4, s5, s6, s7⟩
                                    go_simp
                                    with_reducible rfl
                                  rotate_left
                                  · simp only [Act.put, List.setIfInBounds_toArray, List.set_cons_zero, List.set_cons_succ, i64_w, i32_w]
                                    rfl
                                  refine one_ (i := 60) (N := some 103) #[true, true, true, true, true, true, true, true, true, true, true, true, true, true, true, true, true, true, true, true, true, true, true, true, true, true, true, true, true, true, true, true, true, true, true, true, true, true, true, true, true, true, true, true, true, true, true, true, true, true, true, true, true, true, true, true, true, true, true, true, true, false, false, false] rfl rfl (one_of HT_.out (by kernel_rfl)) (by decide) (fun K hK => ?_)
                                  refine Kd.R_lit_step k39 _ 39 ?hg (N := 103) ?hd (xs := ([(⟨277, 2, 3, 67305985⟩ : S39), (⟨277, 2, 3, 67305985⟩ : S39)] : List (S39))) (inner := [.int .u16 277, .int .u8 2, .int .u8 3, .int .u32 67305985, .int .u16 277, .int .u8 2, .int .u8 3, .int .u32 67305985]) (ok := fun _ => True) (okp := fun _ => True) ?hr ?hp (fun _ hk => hk) trivial (Below.refl _ _) (Nat.le_refl _) (by simp) ?_; (case hd => rfl); (case hg => rfl); (case hr => first | (go_simp; done) | (go_simp; rfl)); (case hp => exact (Reps.c4 (show Kd.M k39 _ _ _ (⟨277, 2, 3, 67305985⟩ : S39) [.int .u16 277, .int .u8 2, .int .u8 3, .int .u32 67305985] from (k39_mkM _ _ _ (⟨277, 2, 3, 67305985⟩ : S39) )) (Reps.c4 (show Kd.M k39 _ _ _ (⟨277, 2, 3, 67305985⟩ : S39) [.int .u16 277, .int .u8 2, .int .u8 3, .int .u32 67305985] from (k39_mkM _ _ _ (⟨277, 2, 3, 67305985⟩ : S39) )) (Reps.none _ _))))
                                  intro v146 w43 ho44 hb hg_ hnew_
                                  have HS4_ := (hb.cell (World.block_lt_of_cell? _ _ (hHeld.2.2.2.2.1))).trans (hHeld.2.2.2.2.1)
                                  have HS5_ := (hb.cell (World.block_lt_of_cell? _ _ (hHeld.2.2.2.2.2.1))).trans (hHeld.2.2.2.2.2.1)
                                  have HS6_ := (hb.cell (World.block_lt_of_cell? _ _ (hHeld.2.2.2.2.2.2.1))).trans (hHeld.2.2.2.2.2.2.1)
                                  have HS7_ := (hb.cell (World.block_lt_of_cell? _ _ (hHeld.2.2.2.2.2.2.2))).trans (hHeld.2.2.2.2.2.2.2)
                                  clear hg_ hnew_
                                  (first | rw [← Ny145.out] at ho44 | (simp only [Int.reduceToNat] at ho44; rw [← Ny145.out] at ho44))
                                  have n0_ := Aside0.mk (Kd.R_elder' (by (with_reducible repeat (first | apply Kd.R_alloc | apply Kd.R_drewN | apply Kd.R_drew)); exact HO127.out) (Kd.R_base ho44) hb)
                                  have n1_ := Aside0.mk (Kd.R_elder' (by (with_reducible repeat (first | apply Kd.R_alloc | apply Kd.R_drewN | apply Kd.R_drew)); exact HO131.out) (Kd.R_base ho44) hb)
                                  have n2_ := Aside0.mk (Kd.R_elder' (by (with_reducible repeat (first | apply Kd.R_alloc | apply Kd.R_drewN | apply Kd.R_drew)); exact HO136.out) (Kd.R_base ho44) hb)
                                  have n3_ := Aside0.mk (Kd.R_lower (Kd.R_newB (Kd.R_new' (Kd.R_new' (Kd.R_new' ho44 (Kd.R_lt (by (with_reducible repeat (first | apply Kd.R_alloc | apply Kd.R_drewN | apply Kd.R_drew)); exact HO127.out))) (Kd.R_lt (by (with_reducible repeat (first | apply Kd.R_alloc | apply Kd.R_drewN | apply Kd.R_drew)); exact HO131.out))) (Kd.R_lt (by (with_reducible repeat (first | apply Kd.R_alloc | apply Kd.R_drewN | apply Kd.R_drew)); exact HO136.out))) (g := gb122) (o := .cells #[.int .u16 277, .int .u8 2, .int .u8 3, .int .u32 67305985] 39 (0, 0)) (by (with_reducible repeat (first | refine blk_drewN ?_ _ | refine blk_drew ?_ | refine blk_alloc ?_ _)); exact BK122.out)) (below_size (by repeat (first | (with_reducible first | exact HB.out | apply below_alloc | apply pw_below_drewN | apply below_drew1 | refine below_set ?_ GE122.out) | exact HB.out))))
                                  have n4_ := Aside0.mk (blk_below (g := gb122) (o := .cells #[.int .u16 277, .int .u8 2, .int .u8 3, .int .u32 67305985] 39 (0, 0)) (by (with_reducible repeat (first | refine blk_drewN ?_ _ | refine blk_drew ?_ | refine blk_alloc ?_ _)); exact BK122.out) hb)
                                  have n5_ := Aside0.mk (below_step (by repeat (first | (with_reducible first | exact HB.out | apply below_alloc | apply pw_below_drewN | apply below_drew1 | refine below_set ?_ GE122.out) | exact HB.out)) hb)
                                  clear HO127
                                  clear HO131
                                  clear HO136
                                  clear BK122
                                  clear HB
                                  have HO127 := n0_
                                  have HO131 := n1_
                                  have HO136 := n2_
                                  have HO147 := n3_
                                  have BK122 := n4_
                                  have HB := n5_
                                  clear n0_ n1_ n2_ n3_ n4_ n5_
                                  clear hb ho44
                                  obtain ⟨Ao45, co45, eo45⟩ := Kd.R_slice HO147.out
                                  (first | subst eo45 | (injection eo45 with f1_ f2_ f3_; have f4_ := f1_.symm; have f5_ := f3_.symm; clear f1_ f2_ f3_; subst f4_; subst f5_))
                                  refine hK.out _ _ ⟨(blk_cell BK122.out 0).trans rfl, (blk_cell BK122.out 1).trans rfl, (blk_cell BK122.out 2).trans rfl, (blk_cell BK122.out 3).trans rfl, HS4_, HS5_, HS6_, HS7_⟩ (fun hHeld => ?_)
                                  clear hK K
                                  refine norm_ (a' := ?_) ?_ ?_
                                  rotate_left
                                  · show Act.put _ (some 103) _ = _
                                    simp only [Act.put, List.setIfInBounds_toArray, List.set_cons_zero, List.set_cons_succ, i64_w, i32_w]
                                    rfl
                                  refine one_ (i := 61) (N := some 104) #[true, true, true, true, true, true, true, true, true, true, true, true, true, true, true, true, true, true, true, true, true, true, true, true, true, true, true, true, true, true, true, true, true, true, true, true, true, true, true, true, true, true, true, true, true, true, true, true, true, true, true, true, true, true, true, true, true, true, true, true, true, true, false, false] rfl rfl (one_of HT_.out (by kernel_rfl)) (by decide) (fun K hK => ?_)
                                  refine goes_ Try.func14 (by kernel_rfl) rfl #[.slice (some ad141) t124.length co37, .slice Ao45 y145.length co45] (by rfl) rfl rfl (by (try simp only [List.map_toArray, List.map_cons, List.map_nil]); first | done | rfl | (simp only [List.length_drop, List.length_take]; rfl)) ?_
                                  with_reducible refine (instr_Same.calls k _ _ t124 _ _ y145 t148 _ ?side1 ?side2 ?side3 ?side4 A26.out).mono ?_
                                  (case side1 => repeat (first | exact (Kd.R_reads' HO127.out).2.2 | (with_reducible refine Kd.C_alloc ?_ _) | (with_reducible refine Kd.C_drewN ?_ _) | (with_reducible refine Kd.C_drew ?_)))
                                  (case side2 => exact (Kd.R_reads' HO127.out).2.1)
                                  (case side3 => repeat (first | exact (Kd.R_reads' HO147.out).2.2 | (with_reducible refine Kd.C_alloc ?_ _) | (with_reducible refine Kd.C_drewN ?_ _) | (with_reducible refine Kd.C_drew ?_)))
                                  (case side4 => exact (Kd.R_reads' HO147.out).2.1)
                                  rintro e w' ⟨rfl, ⟨nd, rfl⟩⟩
                                  refine ⟨_, rfl, ?_⟩
                                  refine hK.out _ _ ⟨(blk_cell BK122.out 0).trans rfl, (blk_cell BK122.out 1).trans rfl, (blk_cell BK122.out 2).trans rfl, (blk_cell BK122.out 3).trans rfl, hHeld.2.2.2.2.1, hHeld.2.2.2.2.2.1, hHeld.2.2.2.2.2.2.1, hHeld.2.2.2.2.2.2.2⟩ (fun hHeld => ?_)
                                  clear hK K
                                  refine norm_ (a' := ?_) ?_ ?_
                                  rotate_left
                                  · show Act.put _ (some 104) _ = _
                                    simp only [Act.put, List.setIfInBounds_toArray, List.set_cons_zero, List.set_cons_succ, i64_w, i32_w]
                                    rfl
                                  refine pure_ (i := 62) (N := some 105) (v := ?_) (a' := ?_) #[true, true, true, true, true, true, true, true, true, true, true, true, true, true, true, true, true, true, true, true, true, true, true, true, true, true, true, true, true, true, true, true, true, true, true, true, true, true, true, true, true, true, true, true, true, true, true, true, true, true, true, true, true, true, true, true, true, true, true, true, true, true, true, false] rfl rfl (any_of HT_.out (by kernel_rfl)) (fun _ _ _ h => h) (Or.inl ⟨by rfl, ?_⟩) ?_ ?_
                                  rotate_left
                                  · intro w'
                                    go_simp
                                    with_reducible rfl
                                  rotate_left
                                  · simp only [Act.put, List.setIfInBounds_toArray, List.set_cons_zero, List.set_cons_succ, i64_w, i32_w]
                                    rfl
                                  refine pure_ (i := 63) (N := some 0) (v := ?_) (a' := ?_) #[true, true, true, true, true, true, true, true, true, true, true, true, true, true, true, true, true, true, true, true, true, true, true, true, true, true, true, true, true, true, true, true, true, true, true, true, true, true, true, true, true, true, true, true, true, true, true, true, true, true, true, true, true, true, true, true, true, true, true, true, true, true, true, true] rfl rfl (any_of HT_.out (by kernel_rfl)) (fun _ _ _ h => h) (Or.inl ⟨by rfl, ?_⟩) ?_ ?_
                                  rotate_left
                                  · intro w'
                                    go_simp
                                    with_reducible rfl
                                  rotate_left
                                  · simp only [Act.put, List.setIfInBounds_toArray, List.set_cons_zero, List.set_cons_succ, i64_w, i32_w]
                                    rfl
                                  refine done_ (done_of HT_.out (by kernel_rfl)) ?_
                                  try go_wp2
                                  go_ret
                                  exact ⟨by first | rfl | (simp [errW_none, errW_some] <;> rfl) | (simp [*, errW_none, errW_some] <;> rfl), by repeat (first | (with_reducible first | exact HB.out | apply below_alloc | apply pw_below_drewN | apply below_drew1 | refine below_set ?_ GE122.out) | exact HB.out)⟩
                              · rw [if_neg c23] at H
                                have c23b0 : (t143 == 16) = false := beq_eq_false_iff_ne.mpr c23
                                have c23b1 : (t143 != 16) = true := bne_iff_ne.mpr c23
                                exact absurd ((Option.some.inj H).trans HT.out) (by simp)
                            · rw [if_neg c21] at H
                              have c21b0 : (t142 == 5) = false := beq_eq_false_iff_ne.mpr c21
                              have c21b1 : (t142 != 5) = true := bne_iff_ne.mpr c21
                              exact absurd ((Option.some.inj H).trans HT.out) (by simp)
                          · rw [if_neg c19] at H
                            have c19b0 : (t140 == 0) = false := beq_eq_false_iff_ne.mpr c19
                            have c19b1 : (t140 != 0) = true := bne_iff_ne.mpr c19
                            exact absurd ((Option.some.inj H).trans HT.out) (by simp)
                        · rw [if_neg c18] at H
                          have c18b0 : (t139.toList == (t123 ++ t123).toList) = false := beq_eq_false_iff_ne.mpr c18
                          have c18b1 : (t139.toList != (t123 ++ t123).toList) = true := bne_iff_ne.mpr c18
                          exact absurd ((Option.some.inj H).trans HT.out) (by simp)
                      · rw [if_neg c17] at H
                        have c17b0 : (t138 == 5) = false := beq_eq_false_iff_ne.mpr c17
                        have c17b1 : (t138 != 5) = true := bne_iff_ne.mpr c17
                        exact absurd ((Option.some.inj H).trans HT.out) (by simp)
                    · rw [if_neg c16] at H
                      have c16b0 : (t133 == 4) = false := beq_eq_false_iff_ne.mpr c16
                      have c16b1 : (t133 != 4) = true := bne_iff_ne.mpr c16
                      exact absurd ((Option.some.inj H).trans HT.out) (by simp)
                  · rw [if_neg c15] at H
                    have c15b0 : (t129 == 4) = false := beq_eq_false_iff_ne.mpr c15
                    have c15b1 : (t129 != 4) = true := bne_iff_ne.mpr c15
                    exact absurd ((Option.some.inj H).trans HT.out) (by simp)
                · rw [if_neg c14] at H
                  have c14b0 : (t125 == 0) = false := beq_eq_false_iff_ne.mpr c14
                  have c14b1 : (t125 != 0) = true := bne_iff_ne.mpr c14
                  exact absurd ((Option.some.inj H).trans HT.out) (by simp)
              · rw [if_neg c13] at H
                have c13b0 : (((rd_T39 t124 1).f0) == 277 && (((rd_T39 t124 1).f1) == 2 && (((rd_T39 t124 1).f2) == 3 && (((rd_T39 t124 1).f3) == 67305985)))) = false := by simpa using c13
                (try (have c13b1 : decide (((rd_T39 t124 1).f0) = 277 && (((rd_T39 t124 1).f1) == 2 && (((rd_T39 t124 1).f2) == 3 && (((rd_T39 t124 1).f3) == 67305985)))) = false := by simpa using c13))
                (try (have c13b2 : (((rd_T39 t124 1).f0) == 277 && (((rd_T39 t124 1).f1) == 2 && (((rd_T39 t124 1).f2) == 3 && (((rd_T39 t124 1).f3) == 67305985)))) = false := by simpa using c13))
                (try (have c13b3 : ¬ (((rd_T39 t124 1).f0) = 277 && (((rd_T39 t124 1).f1) == 2 && (((rd_T39 t124 1).f2) == 3 && (((rd_T39 t124 1).f3) == 67305985)))) := by simpa using c13))
                clear c13
                exact absurd ((Option.some.inj H).trans HT.out) (by simp)
            · rw [if_neg c12] at H
              exact absurd H (by simp)
          · rw [if_neg c11] at H
            have c11b0 : ((t124.length : Int) == 2) = false := beq_eq_false_iff_ne.mpr c11
            have c11b1 : ((t124.length : Int) != 2) = true := bne_iff_ne.mpr c11
            exact absurd ((Option.some.inj H).trans HT.out) (by simp)
        · rw [if_neg c10] at H
          have c10b0 : (t123.toList == ([21, 1, 2, 3, 1, 2, 3, 4] : List UInt8)) = false := beq_eq_false_iff_ne.mpr c10
          have c10b1 : (t123.toList != ([21, 1, 2, 3, 1, 2, 3, 4] : List UInt8)) = true := bne_iff_ne.mpr c10
          exact absurd ((Option.some.inj H).trans HT.out) (by simp)
      · rw [if_neg c7] at H
        exact absurd H (by simp)
    · rw [if_neg c4] at H
      exact absurd H (by simp)
  · rw [if_neg c2] at H
    exact absurd H (by simp)

end Go.Proofs.Ytjgapcidhoecfaa.Pr
