/- An instruction's class, what it reckons or asks, and where its other number comes from, make its code's lower byte; it is written as the document says. No condition. -/
import Derived.Test.YtjgapcidhoecfaaFTamislaw02InstrParts
import Derived.Test.YtjgapcidhoecfaaGPure02b
import Derived.Laws.BitsAllLaws
namespace Go.Proofs.Ytjgapcidhoecfaa.Pure
open Go.RowKit Go.Proofs.Ytjgapcidhoecfaa.Pr Go.Proofs.YtjgapcidhoecfaaW.PrintWords Go.Proofs.YtjgapcidhoecfaaW.PrintLast

theorem nat_bits (n : Nat) : (n &&& 7) + (n &&& 240) + (n &&& 8) = (n &&& 255) ∧ ((n &&& 8) = 0 ∨ (n &&& 8) = 8) := by
  have e1 : n &&& 255 = n % 256 := Nat.and_two_pow_sub_one_eq_mod n 8
  have e2 : n &&& 7 = n % 8 := Nat.and_two_pow_sub_one_eq_mod n 3
  have e3 : n &&& 8 = n / 8 % 2 * 8 := nat_bit 3 n
  have e4 : n &&& 240 = n / 16 % 16 * 16 := by
    have a1 : n &&& 240 = (n &&& (15 <<< 4)) := rfl
    apply Nat.eq_of_testBit_eq
    intro i
    rw [Nat.testBit_and]
    have h240 : (240 : Nat) = 15 * 2 ^ 4 := rfl
    have hr : n / 16 % 16 * 16 = (n / 2 ^ 4 % 2 ^ 4) * 2 ^ 4 := rfl
    rw [h240, hr, Nat.testBit_mul_two_pow, Nat.testBit_mul_two_pow]
    by_cases hi : 4 ≤ i
    · simp only [hi, decide_true, Bool.true_and]
      rw [Nat.testBit_mod_two_pow, Nat.testBit_div_two_pow]
      rw [show (15 : Nat) = 2 ^ 4 - 1 from rfl, Nat.testBit_two_pow_sub_one]
      rw [show i - 4 + 4 = i by omega, Bool.and_comm]
    · simp [hi]
  rw [e1, e2, e3, e4]
  omega
theorem parts (c : Int) (h0 : 0 ≤ c) (h1 : c < 65536) : bits .and .u16 c 7 + bits .and .u16 c 240 + bits .and .u16 c 8 = bits .and .u16 c 255 ∧ (bits .and .u16 c 8 = 0 ∨ bits .and .u16 c 8 = 8) ∧ 0 ≤ bits .and .u16 c 7 ∧ bits .and .u16 c 7 < 65536 ∧ 0 ≤ bits .and .u16 c 240 ∧ bits .and .u16 c 240 < 65536 ∧ 0 ≤ bits .and .u16 c 255 ∧ bits .and .u16 c 255 < 65536 := by
  obtain ⟨n, rfl⟩ := Int.eq_ofNat_of_zero_le h0
  have hn : n < 65536 := by omega
  have a7 : bits .and .u16 (n : Int) 7 = ((n &&& 7 : Nat) : Int) := u16_and_nat n 7 hn (by omega)
  have a240 : bits .and .u16 (n : Int) 240 = ((n &&& 240 : Nat) : Int) := u16_and_nat n 240 hn (by omega)
  have a8 : bits .and .u16 (n : Int) 8 = ((n &&& 8 : Nat) : Int) := u16_and_nat n 8 hn (by omega)
  have a255 : bits .and .u16 (n : Int) 255 = ((n &&& 255 : Nat) : Int) := u16_and_nat n 255 hn (by omega)
  obtain ⟨e, e8⟩ := nat_bits n
  have l7 : n &&& 7 ≤ 7 := Nat.and_le_right
  have l240 : n &&& 240 ≤ 240 := Nat.and_le_right
  have l255 : n &&& 255 ≤ 255 := Nat.and_le_right
  rw [a7, a240, a8, a255]
  omega
theorem wrap_small {x : Int} (h0 : 0 ≤ x) (h1 : x < 1000000) : wrap64 x = x := by unfold wrap64; omega
theorem sums {p q r s : Int} (h : p + q + r = s) (hr : r = 0 ∨ r = 8) (p0 : 0 ≤ p) (p1 : p < 65536) (q0 : 0 ≤ q) (q1 : q < 65536) (s1 : s < 65536) : wrap64 (wrap64 (wrap64 p + wrap64 q) + r) = wrap64 s := by
  rw [wrap_small p0 (by omega), wrap_small q0 (by omega), wrap_small (x := p + q) (by omega) (by omega), wrap_small (x := p + q + r) (by omega) (by omega), wrap_small (x := s) (by omega) (by omega), h]

theorem j0_fin (k : Nat) (hk : 5 ≤ k) (a b c d : Int) (hx : okI ⟨a, b, c, d⟩) : tamislaw02_InstrParts.j0 (k + 1) (bits .and .u16 a 8) a b c d = some true := by
  have ho := ref_one ⟨a, b, c, d⟩ hx
  have hp := parts a hx.1.1 hx.1.2
  have hs := sums hp.1 hp.2.1 hp.2.2.1 hp.2.2.2.1 hp.2.2.2.2.1 hp.2.2.2.2.2.1 hp.2.2.2.2.2.2.2
  simp only at ho
  simp only [tamislaw02_InstrParts.j0]
  unfold awake02.f instr_Class.f instr_Op.f
  rw [Option.bind_some, if_pos rfl, Option.bind_some, Option.bind_some, if_pos hs, instr_One_eq k hk, Option.bind_some, ho, Option.bind_some, beq_self_eq_true]

theorem InstrParts : tamislaw02_InstrParts.Pure := by
  intro a b c d hok
  have hx := ok_of _ hok
  have fin := j0_fin 5 (Nat.le_refl 5) a b c d hx
  refine ⟨5 + 1, ?_⟩
  unfold tamislaw02_InstrParts.f instr_FromX.f
  rw [Option.bind_some]
  rcases (parts a hx.1.1 hx.1.2).2.1 with h | h
  · rw [h] at fin ⊢
    exact fin
  · rw [h] at fin ⊢
    exact fin
end Go.Proofs.Ytjgapcidhoecfaa.Pure
