import Derived.Test.YtjgapcidhoecfaaPr0
import Derived.StillTailTactics
import Derived.Lib.ConvBytes
import Derived.Outline
import Derived.Laws.BitsAllLaws
namespace Go.Proofs.Ytjgapcidhoecfaa.Pr
open Go.RowKit Go.Proofs.YtjgapcidhoecfaaW.PrintWords Go.Proofs.YtjgapcidhoecfaaW.PrintLast Go.Proofs.YtjgapcidhoecfaaW.PrintMore

def instr_read.f (a0 : ByteArray) : Option (Int × Int × Int × Int) :=
  if 8 ≤ a0.size then some (bt a0 0 + 256 * bt a0 1, bt a0 2, bt a0 3, bt a0 4 + 256 * bt a0 5 + 65536 * bt a0 6 + 16777216 * bt a0 7) else none

theorem below_bytesWorld (w : World) (e : TypeId) (s : ByteArray) : Below w.heap.size w (Lib.bytesWorld w e s) :=
  ⟨rfl, rfl, rfl, by rw [Lib.bytesWorld_size]; omega, fun i hi => Lib.bytesWorld_at_old w e s i hi⟩
theorem bytes_at (a : ByteArray) (j : Nat) (hj : j < 4) (h8 : 8 ≤ a.size) : (((a.extract 4 8).data.toList.getD j 0).toNat : Int) = bt a (4 + j) := by
  have h : (4 + (j : Int)).toNat < a.size := by omega
  rw [← bt_at a (4 + j) h]
  have h2 : j < (a.extract 4 8).data.toList.length := by
    have : (a.extract 4 8).size = 4 := by rw [ByteArray.size_extract]; omega
    rw [Array.length_toList]; show j < (a.extract 4 8).size; omega
  rw [List.getD_eq_getElem?_getD, List.getElem?_eq_getElem h2, Option.getD_some]
  simp only [ByteArray.data_extract, Array.toList_extract, List.extract_eq_take_drop, List.getElem_take, List.getElem_drop]
  have e : (4 + (j : Int)).toNat = 4 + j := by omega
  simp only [e]
  rfl
def kpart (a : ByteArray) : Nat → Int
  | 0 => 0
  | 1 => bt a 4
  | 2 => bt a 4 + 256 * bt a 5
  | 3 => bt a 4 + 256 * bt a 5 + 65536 * bt a 6
  | _ => bt a 4 + 256 * bt a 5 + 65536 * bt a 6 + 16777216 * bt a 7

theorem or16 {x y : Int} (h1 : 0 ≤ x) (h2 : x ≤ 255) (h3 : 0 ≤ y) (h4 : y ≤ 255) : bits .or .u16 (IntKind.u16.wrap x) (IntKind.u16.wrap (IntKind.u16.wrap y * 256)) = x + 256 * y := by
  rw [IntKind.wrap_u16, IntKind.wrap_u16, IntKind.wrap_u16]
  obtain ⟨a, rfl⟩ := Int.eq_ofNat_of_zero_le h1
  obtain ⟨b, rfl⟩ := Int.eq_ofNat_of_zero_le h3
  rw [show (a : Int) % 65536 = ((a : Nat) : Int) by omega, show (b : Int) % 65536 * 256 % 65536 = ((b * 256 : Nat) : Int) by omega]
  rw [u16_or_nat _ _ (by omega) (by omega), Nat.or_comm, nat_join 8 (b * 256) a (by omega) (by omega)]
  omega
theorem or32_8 {K b : Int} (h1 : 0 ≤ K) (h2 : K < 256) (h3 : 0 ≤ b) (h4 : b ≤ 255) : bits .or .u32 K (b * 256) = K + 256 * b := by
  obtain ⟨a, rfl⟩ := Int.eq_ofNat_of_zero_le h1
  obtain ⟨c, rfl⟩ := Int.eq_ofNat_of_zero_le h3
  rw [show (c : Int) * 256 = ((c * 256 : Nat) : Int) by omega]
  rw [u32_or_nat _ _ (by omega) (by omega), Nat.or_comm, nat_join 8 (c * 256) a (by omega) (by omega)]
  omega
theorem or32_16 {K b : Int} (h1 : 0 ≤ K) (h2 : K < 65536) (h3 : 0 ≤ b) (h4 : b ≤ 255) : bits .or .u32 K (b * 65536) = K + 65536 * b := by
  obtain ⟨a, rfl⟩ := Int.eq_ofNat_of_zero_le h1
  obtain ⟨c, rfl⟩ := Int.eq_ofNat_of_zero_le h3
  rw [show (c : Int) * 65536 = ((c * 65536 : Nat) : Int) by omega]
  rw [u32_or_nat _ _ (by omega) (by omega), Nat.or_comm, nat_join 16 (c * 65536) a (by omega) (by omega)]
  omega
theorem or32_24 {K b : Int} (h1 : 0 ≤ K) (h2 : K < 16777216) (h3 : 0 ≤ b) (h4 : b ≤ 255) : bits .or .u32 K (b * 16777216) = K + 16777216 * b := by
  obtain ⟨a, rfl⟩ := Int.eq_ofNat_of_zero_le h1
  obtain ⟨c, rfl⟩ := Int.eq_ofNat_of_zero_le h3
  rw [show (c : Int) * 16777216 = ((c * 16777216 : Nat) : Int) by omega]
  rw [u32_or_nat _ _ (by omega) (by omega), Nat.or_comm, nat_join 24 (c * 16777216) a (by omega) (by omega)]
  omega

theorem or32z {b : Int} (h3 : 0 ≤ b) (h4 : b ≤ 255) : bits .or .u32 0 b = b := by
  obtain ⟨c, rfl⟩ := Int.eq_ofNat_of_zero_le h3
  rw [show (0 : Int) = ((0 : Nat) : Int) by rfl, u32_or_nat _ _ (by omega) (by omega), Nat.zero_or]
theorem kstep0 (a : ByteArray) : bits .or .u32 (kpart a 0) (bt a 4 % 4294967296) = kpart a 1 := by
  have b4 := bt_range a 4
  rw [show bt a 4 % 4294967296 = bt a 4 by omega]
  exact or32z b4.1 b4.2
theorem kstep1 (a : ByteArray) : bits .or .u32 (kpart a 1) (bt a 5 % 4294967296 * 256 % 4294967296) = kpart a 2 := by
  have b4 := bt_range a 4
  have b5 := bt_range a 5
  rw [show bt a 5 % 4294967296 * 256 % 4294967296 = bt a 5 * 256 by omega]
  exact or32_8 (K := bt a 4) (by omega) (by omega) b5.1 b5.2
theorem kstep2 (a : ByteArray) : bits .or .u32 (kpart a 2) (bt a 6 % 4294967296 * 65536 % 4294967296) = kpart a 3 := by
  have b4 := bt_range a 4
  have b5 := bt_range a 5
  have b6 := bt_range a 6
  rw [show bt a 6 % 4294967296 * 65536 % 4294967296 = bt a 6 * 65536 by omega]
  exact or32_16 (K := bt a 4 + 256 * bt a 5) (by omega) (by omega) b6.1 b6.2
theorem kstep3 (a : ByteArray) : bits .or .u32 (kpart a 3) (bt a 7 % 4294967296 * 16777216 % 4294967296) = kpart a 4 := by
  have b4 := bt_range a 4
  have b5 := bt_range a 5
  have b6 := bt_range a 6
  have b7 := bt_range a 7
  rw [show bt a 7 % 4294967296 * 16777216 % 4294967296 = bt a 7 * 16777216 by omega]
  exact or32_24 (K := bt a 4 + 256 * bt a 5 + 65536 * bt a 6) (by omega) (by omega) b7.1 b7.2

set_option maxHeartbeats 1000000 in
set_option maxRecDepth 100000 in
theorem instr_read.calls (a0 : ByteArray) (r1 r2 r3 r4 : Int) (w : World) (h : instr_read.f a0 = some (r1, r2, r3, r4)) :
    Calls Try.prog 21 #[.string a0] w fun e w' => e = .returned (.agg #[.int .u16 r1, .int .u8 r2, .int .u8 r3, .int .u32 r4]) ∧ Below w.heap.size w w' := by
  have h8 : 8 ≤ a0.size := by
    unfold instr_read.f at h
    split at h
    · assumption
    · cases h
  have H := Aside0.mk h
  clear h
  have q0 : 0 < a0.size := by omega
  have q1 : 1 < a0.size := by omega
  have q2 : 2 < a0.size := by omega
  have q3 : 3 < a0.size := by omega
  have p1 : (1:Int) < a0.size := by omega
  have p2 : (2:Int) < a0.size := by omega
  have p3 : (3:Int) < a0.size := by omega
  have p8 : (8:Int) ≤ a0.size := by omega
  have hcv := fun wx => Lib.run_convert_string_bytes (P := Try.prog) wx 9 47 5 (a0.extract 4 8) Try.underlying9 Try.underlying47 Try.underlying5
  have e48 : (a0.extract 4 8).size = 4 := by rw [ByteArray.size_extract]; omega
  go_enter Try.func21, Try.ntmps21
  go_upto_region 1 with (fail)
  go_cut [] (fun wc => wc.heap[w.heap.size]? = some (.cells #[.int .u16 (bits .or .u16 (IntKind.u16.wrap a0[0].toNat) (IntKind.u16.wrap (IntKind.u16.wrap a0[1].toNat * 256))), .int .u8 a0[2].toNat, .int .u8 a0[3].toNat, .int .u32 0] 39 (0, 0)) ∧ Aside0 (Below w.heap.size w wc))
  case first =>
    have hb0 : (w.alloc (.cells #[.int .u16 0, .int .u8 0, .int .u8 0, .int .u32 0] 39 (0, 0))).heap[w.heap.size]? = some (.cells #[.int .u16 0, .int .u8 0, .int .u8 0, .int .u32 0] 39 (0, 0)) := by simpa using heap_alloc_new w _
    have HB0 := Aside0.mk ((Below.refl w.heap.size w).alloc (Nat.le_refl _) (.cells #[.int .u16 0, .int .u8 0, .int .u8 0, .int .u32 0] 39 (0, 0)))
    generalize w.alloc (.cells #[.int .u16 0, .int .u8 0, .int .u8 0, .int .u32 0] 39 (0, 0)) = wc at *
    have g0 : wc.cell? ⟨w.heap.size, 0, none⟩ = some (.int .u16 0) := by simp [World.cell?, hb0]
    have g1 : wc.cell? ⟨w.heap.size, 1, none⟩ = some (.int .u8 0) := by simp [World.cell?, hb0]
    have g2 : wc.cell? ⟨w.heap.size, 2, none⟩ = some (.int .u8 0) := by simp [World.cell?, hb0]
    have g3 : wc.cell? ⟨w.heap.size, 3, none⟩ = some (.int .u32 0) := by simp [World.cell?, hb0]
    have f0 : ∀ j, wc.frozen? ⟨w.heap.size, j, none⟩ = false := fun j => by simp [World.frozen?, hb0]
    have HB1 := Aside0.mk hb0
    clear hb0
    go_still_tail 13, (by kernel_rfl)
    change wpList _ _ _ _ _ wc.drew
    go_wp2
    go_meet
    case rel => exact ⟨blk_drew (blk_set (blk_set (blk_set (blk_set HB1.out 0 _) 1 _) 2 _) 3 _), ⟨below_drew (below_set (below_set (below_set (below_set HB0.out (Nat.le_refl _)) (Nat.le_refl _)) (Nat.le_refl _)) (Nat.le_refl _))⟩⟩
  case rest =>
    obtain ⟨hb, HB⟩ := hcut
    have HBK := Aside0.mk hb
    have hlt := blk_lt hb
    clear hb
    rw [e48] at hcv
    go_upto_region 2 with (fail)
    go_cut [20, 21, 22] (fun v20 v21 v22 w2 => ∃ cp : Nat, v20 = .slice (some ⟨wc.heap.size, 0, none⟩) 4 cp ∧ v21 = .int .i64 4 ∧ v22 = .int .i64 0 ∧ Aside0 (w2 = Lib.bytesWorld wc 5 (a0.extract 4 8)))
    case first =>
      go_wp2
      go_meet
      case rel => exact ⟨_, rfl, rfl, rfl, ⟨rfl⟩⟩
    case rest =>
      obtain ⟨cp, rfl, rfl, rfl, HW⟩ := hcut
      have hw2 := HW.out
      subst hw2
      have hl4 : ∀ j, j < wc.heap.size → (Lib.bytesWorld wc 5 (a0.extract 4 8)).heap[j]? = wc.heap[j]? := Lib.bytesWorld_at_old wc 5 _
      have HBK2 := Aside0.mk ((hl4 _ hlt).trans HBK.out)
      have HB2 : Aside0 (Below w.heap.size w (Lib.bytesWorld wc 5 (a0.extract 4 8))) := ⟨below_step HB.out (below_bytesWorld wc 5 _)⟩
      have HC : Aside0 (∀ j, j < 4 → (Lib.bytesWorld wc 5 (a0.extract 4 8)).cell? ⟨wc.heap.size, j, none⟩ = some (.int .u8 (bt a0 (4 + j)))) := ⟨fun j hj => by
        rw [Lib.bytesWorld_cell wc 5 _ j (by rw [e48]; exact hj)]
        congr 2
        exact bytes_at a0 j hj h8⟩
      clear hl4 HW
      generalize Lib.bytesWorld wc 5 (a0.extract 4 8) = w2 at *
      clear hcv HBK HB
      have hne : w.heap.size ≠ wc.heap.size := by omega
      have z0 := HC.out 0 (by omega)
      have z1 := HC.out 1 (by omega)
      have z2 := HC.out 2 (by omega)
      have z3 := HC.out 3 (by omega)
      clear HC
      go_wp2
      go_loopw [22] (fun v22 wr => ∃ (n : Nat) (K : Int), n ≤ 4 ∧ v22 = .int .i64 n ∧ Aside0 (K = kpart a0 n) ∧ Aside0 (wr.heap[w.heap.size]? = some (.cells #[.int .u16 (bits .or .u16 (IntKind.u16.wrap a0[0].toNat) (IntKind.u16.wrap (IntKind.u16.wrap a0[1].toNat * 256))), .int .u8 a0[2].toNat, .int .u8 a0[3].toNat, .int .u32 K] 39 (0, 0))) ∧ (∀ j : Nat, j < 4 → wr.cell? ⟨wc.heap.size, j, none⟩ = some (.int .u8 (bt a0 (4 + j)))) ∧ Aside0 (Below w.heap.size w wr)) (fun v22 _ => 4 - (intOf v22).toNat)
      case atStart =>
        exact ⟨0, 0, by omega, rfl, ⟨rfl⟩, HBK2, fun j hj => by
          match j, hj with
          | 0, _ => exact z0
          | 1, _ => exact z1
          | 2, _ => exact z2
          | 3, _ => exact z3, HB2⟩
      case round =>
        clear z0 z1 z2 z3 HBK2 HB2
        obtain ⟨n, K, hn, rfl, HK, HBK, hz, HB⟩ := hrel
        have HZ := Aside0.mk hz
        clear hz
        obtain n0 | n0 | n0 | n0 | n0 : n = 0 ∨ n = 1 ∨ n = 2 ∨ n = 3 ∨ n = 4 := by omega
        · subst n0
          have z0 := HZ.out 0 (by omega)
          have g3 := blk_cell HBK.out 3
          have f0 : ∀ j, wr.frozen? ⟨w.heap.size, j, none⟩ = false := fun j => blk_frozen HBK.out j
          have y0 : IntKind.i64.wrap 0 = 0 := by decide
          go_upto_region 5 with (fail)
          go_still_tail 9, (by kernel_rfl)
          change wpList _ _ _ _ _ wr.drew
          go_wp2
          go_roundw
          case rel => exact ⟨1, _, by omega, by go_num, ⟨by rw [HK.out]; exact kstep0 a0⟩, ⟨blk_drew (blk_set HBK.out 3 _)⟩, fun j hj => by rw [← HZ.out j hj]; go_simp, ⟨below_drew (below_set HB.out (Nat.le_refl _))⟩⟩
          case measure => simp [intOf]
        · subst n0
          have z0 := HZ.out 1 (by omega)
          have g3 := blk_cell HBK.out 3
          have f0 : ∀ j, wr.frozen? ⟨w.heap.size, j, none⟩ = false := fun j => blk_frozen HBK.out j
          have y0 : IntKind.i64.wrap 8 = 8 := by decide
          go_upto_region 5 with (fail)
          go_still_tail 9, (by kernel_rfl)
          change wpList _ _ _ _ _ wr.drew
          go_wp2
          go_roundw
          case rel => exact ⟨2, _, by omega, by go_num, ⟨by rw [HK.out]; exact kstep1 a0⟩, ⟨blk_drew (blk_set HBK.out 3 _)⟩, fun j hj => by rw [← HZ.out j hj]; go_simp, ⟨below_drew (below_set HB.out (Nat.le_refl _))⟩⟩
          case measure => simp [intOf]
        · subst n0
          have z0 := HZ.out 2 (by omega)
          have g3 := blk_cell HBK.out 3
          have f0 : ∀ j, wr.frozen? ⟨w.heap.size, j, none⟩ = false := fun j => blk_frozen HBK.out j
          have y0 : IntKind.i64.wrap 16 = 16 := by decide
          go_upto_region 5 with (fail)
          go_still_tail 9, (by kernel_rfl)
          change wpList _ _ _ _ _ wr.drew
          go_wp2
          go_roundw
          case rel => exact ⟨3, _, by omega, by go_num, ⟨by rw [HK.out]; exact kstep2 a0⟩, ⟨blk_drew (blk_set HBK.out 3 _)⟩, fun j hj => by rw [← HZ.out j hj]; go_simp, ⟨below_drew (below_set HB.out (Nat.le_refl _))⟩⟩
          case measure => simp [intOf]
        · subst n0
          have z0 := HZ.out 3 (by omega)
          have g3 := blk_cell HBK.out 3
          have f0 : ∀ j, wr.frozen? ⟨w.heap.size, j, none⟩ = false := fun j => blk_frozen HBK.out j
          have y0 : IntKind.i64.wrap 24 = 24 := by decide
          go_upto_region 5 with (fail)
          go_still_tail 9, (by kernel_rfl)
          change wpList _ _ _ _ _ wr.drew
          go_wp2
          go_roundw
          case rel => exact ⟨4, _, by omega, by go_num, ⟨by rw [HK.out]; exact kstep3 a0⟩, ⟨blk_drew (blk_set HBK.out 3 _)⟩, fun j hj => by rw [← HZ.out j hj]; go_simp, ⟨below_drew (below_set HB.out (Nat.le_refl _))⟩⟩
          case measure => simp [intOf]
        · subst n0
          have g0 := blk_cell HBK.out 0
          have g1 := blk_cell HBK.out 1
          have g2 := blk_cell HBK.out 2
          have g3 := blk_cell HBK.out 3
          have f0 : ∀ j, wr.frozen? ⟨w.heap.size, j, none⟩ = false := fun j => blk_frozen HBK.out j
          go_wp2
          have hW := blk_set (blk_set (blk_set (blk_set HBK.out 0 (.int .u16 (bits .or .u16 (IntKind.u16.wrap a0[0].toNat) (IntKind.u16.wrap (IntKind.u16.wrap a0[1].toNat * 256))))) 1 (.int .u8 a0[2].toNat)) 2 (.int .u8 a0[3].toNat)) 3 (.int .u32 K)
          have k0 := blk_cell hW 0
          have k1 := blk_cell hW 1
          have k2 := blk_cell hW 2
          have k3 := blk_cell hW 3
          refine bodyPost_ret (v := .agg #[.int .u16 (bits .or .u16 (IntKind.u16.wrap a0[0].toNat) (IntKind.u16.wrap (IntKind.u16.wrap a0[1].toNat * 256))), .int .u8 a0[2].toNat, .int .u8 a0[3].toNat, .int .u32 K]) (by simp [results, Try.results21, go_sem, k0, k1, k2, k3]) rfl ⟨?_, below_set (below_set (below_set (below_set HB.out (Nat.le_refl _)) (Nat.le_refl _)) (Nat.le_refl _)) (Nat.le_refl _)⟩
          have hR := H.out
          unfold instr_read.f at hR
          rw [if_pos h8] at hR
          simp only [Option.some.injEq, Prod.mk.injEq] at hR
          obtain ⟨rfl, rfl, rfl, rfl⟩ := hR
          have hk := HK.out
          subst hk
          have e0 := bt_at a0 0 q0
          have e1 := bt_at a0 1 q1
          have e2 := bt_at a0 2 q2
          have e3 := bt_at a0 3 q3
          have b0 := bt_range a0 0
          have b1 := bt_range a0 1
          rw [show ((a0[0]'q0).toNat : Int) = bt a0 0 from e0, show ((a0[1]'q1).toNat : Int) = bt a0 1 from e1, show ((a0[2]'q2).toNat : Int) = bt a0 2 from e2, show ((a0[3]'q3).toNat : Int) = bt a0 3 from e3, or16 b0.1 b0.2 b1.1 b1.2]
          rfl
end Go.Proofs.Ytjgapcidhoecfaa.Pr
