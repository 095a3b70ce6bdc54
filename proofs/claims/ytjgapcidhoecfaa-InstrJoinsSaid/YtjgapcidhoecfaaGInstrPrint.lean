/- instr.Print: what it answers, and the walk through its builder. -/
import Derived.Test.YtjgapcidhoecfaaFInstrLength
import Derived.Test.YtjgapcidhoecfaaGInstrOne
import Derived.Test.YtjgapcidhoecfaaGBuilder
namespace Go.Proofs.Ytjgapcidhoecfaa.Pr
set_option linter.unusedSimpArgs false
set_option linter.unusedVariables false
open Go.RowKit Go.Proofs.YtjgapcidhoecfaaW.PrintWords Go.Proofs.YtjgapcidhoecfaaW.PrintLast Go.Proofs.YtjgapcidhoecfaaW.PrintMore

def oneB (x : S39) : List UInt8 := (oneNums x.f0 x.f1 x.f2 x.f3).map fun n => UInt8.ofNat n.toNat
theorem oneB_length (x : S39) : (oneB x).length = 8 := rfl
theorem oneB_str (x : S39) : strOfNums (oneNums x.f0 x.f1 x.f2 x.f3) = ⟨(oneB x).toArray⟩ := rfl
def instr_Print.f (l0 : List (S39)) : Option (ByteArray × Int) :=
  if l0.length = 0 then some ((⟨#[]⟩ : ByteArray), 4) else if 4096 < l0.length then some ((⟨#[]⟩ : ByteArray), 5) else some ((⟨(l0.flatMap oneB).toArray⟩ : ByteArray), 0)
theorem flat_length (l : List (S39)) : (l.flatMap oneB).length = 8 * l.length := by
  induction l with
  | nil => rfl
  | cons x r ih => rw [List.flatMap_cons, List.length_append, ih, oneB_length, List.length_cons]; omega
theorem flat_take (l : List (S39)) (n : Nat) (h : n < l.length) : (l.take (n + 1)).flatMap oneB = (l.take n).flatMap oneB ++ oneB l[n] := by
  rw [List.take_succ_eq_append_getElem h, List.flatMap_append]; simp
theorem builder_below {T e : TypeId} {B b : Nat} {bs : List Value} {w w' : World} (h : Lib.IsBuilderF T e B b bs w) (hb : Below w.heap.size w w') : Lib.IsBuilderF T e B b bs w' := by
  have key : ∀ p, Lib.BuilderAtF T e B b p bs w → Lib.BuilderAtF T e B b p bs w' := by
    rintro p ⟨hB, v, hbk, hown, hne⟩
    exact ⟨hB, v, blk_below hbk hb, hown.kept (grown_of_below hb none) (by cases v.ownBlock <;> simp), hne⟩
  rcases h with h | h
  · exact .inl (key _ h)
  · exact .inr (key _ h)
theorem rd_get (l : List (S39)) (n : Nat) (h : n < l.length) : rd_T39 l (n : Int) = l[n] := by
  unfold rd_T39
  rw [Int.toNat_natCast, List.getD_eq_getElem?_getD, List.getElem?_eq_getElem h, Option.getD_some]
theorem strCells_of (l : List UInt8) : Lib.strCells ⟨l.toArray⟩ = Lib.byteCells l := by
  simp [Lib.strCells, Lib.byteCells]
theorem byteCells_append (a b : List UInt8) : Lib.byteCells (a ++ b) = Lib.byteCells a ++ Lib.byteCells b := by
  simp [Lib.byteCells]

set_option maxHeartbeats 2000000 in
set_option maxRecDepth 100000 in
theorem instr_Print.calls (A0 : Option Addr) (c0 : Nat) (l0 : List (S39)) (r1 : ByteArray) (r2 : Int) (w : World) (hr0 : Kd.C k39 w A0 l0.length l0) (hc0 : l0.length ≤ c0) (h : instr_Print.f l0 = some (r1, r2)) :
    Calls Try.prog 12 #[.slice A0 l0.length c0] w fun e w' => e = .returned (.tuple #[.string r1, .int .i64 r2]) ∧ Below w.heap.size w w' := by
  have HR := Aside0.mk hr0
  clear hr0 hc0
  by_cases h0 : l0.length = 0
  · have e1 : instr_length.f (l0.length : Int) = some 4 := by unfold instr_length.f; rw [if_pos (by omega)]
    unfold instr_Print.f at h
    rw [if_pos h0] at h
    obtain ⟨rfl, rfl⟩ := Prod.mk.inj (Option.some.inj h)
    clear h h0
    have E1 := Aside0.mk e1
    clear e1
    go_enter Try.func12, Try.ntmps12
    go_wp2_with (go_at_call 20; refine (instr_length.calls _ _ _ E1.out).mono ?_; rintro e w1 ⟨rfl, ⟨n1, rfl⟩⟩)
    go_ret2
    exact ⟨rfl, pw_below_drewN (Below.refl _ _) _⟩
  · by_cases h1 : 4096 < l0.length
    · have e1 : instr_length.f (l0.length : Int) = some 5 := by unfold instr_length.f; rw [if_neg (by omega), if_pos (by omega)]
      unfold instr_Print.f at h
      rw [if_neg h0, if_pos h1] at h
      obtain ⟨rfl, rfl⟩ := Prod.mk.inj (Option.some.inj h)
      clear h h0 h1
      have E1 := Aside0.mk e1
      clear e1
      go_enter Try.func12, Try.ntmps12
      go_wp2_with (go_at_call 20; refine (instr_length.calls _ _ _ E1.out).mono ?_; rintro e w1 ⟨rfl, ⟨n1, rfl⟩⟩)
      go_ret2
      exact ⟨rfl, pw_below_drewN (Below.refl _ _) _⟩
    · have e1 : instr_length.f (l0.length : Int) = some 0 := by unfold instr_length.f; rw [if_neg (by omega), if_neg (by omega)]
      unfold instr_Print.f at h
      rw [if_neg h0, if_neg h1] at h
      obtain ⟨rfl, rfl⟩ := Prod.mk.inj (Option.some.inj h)
      clear h
      have E1 := Aside0.mk e1
      clear e1
      have hle : l0.length ≤ 4096 := by omega
      have hpos : 0 < l0.length := by omega
      clear h0 h1
      have HB := Aside0.mk (Below.refl w.heap.size w)
      go_enter Try.func12, Try.ntmps12
      go_wp2_with (go_at_call 20; refine (instr_length.calls _ _ _ E1.out).mono ?_; rintro e w1 ⟨rfl, ⟨n1, rfl⟩⟩)
      have HB1 := Aside0.mk ((pw_below_drewN HB.out n1).alloc (by simp) (.cells #[.pointer none, .slice none 0 0] 49 (0, 0)))
      go_loopw [16] (fun v16 wr => ∃ (n : Nat) (bs : List UInt8), n ≤ l0.length ∧ v16 = .int .i64 n ∧ Aside0 (bs = (l0.take n).flatMap oneB) ∧ Aside0 (Lib.IsBuilderF 49 5 w.heap.size w.heap.size (Lib.byteCells bs) wr) ∧ Aside0 (Below w.heap.size w wr)) (fun v16 _ => l0.length - (intOf v16).toNat)
      case atStart =>
        exact ⟨0, [], by omega, rfl, ⟨by simp⟩, ⟨.inl ⟨Nat.le_refl _, _, by simpa using heap_alloc_new (w.drewN n1) _, World.ownsRowF_nil _ _ _ _, by simp [Value.ownBlock]⟩⟩, by simpa using HB1⟩
      case round =>
        obtain ⟨n, bs, hn, rfl, HBS, HI, HW⟩ := hrel
        clear HB HB1
        by_cases hlt : n < l0.length
        · have p0 : (0 : Int) ≤ (n : Int) := by omega
          have q0 : (n : Int) < (l0.length : Int) := by omega
          obtain ⟨ad, e, x0, x1, x2, x3⟩ := at_T39 HR.out (n : Int) p0 q0
          cases e
          replace x0 := pw_cell_below HW.out x0
          replace x1 := pw_cell_below HW.out x1
          replace x2 := pw_cell_below HW.out x2
          replace x3 := pw_cell_below HW.out x3
          have eq1 := rd_get l0 n hlt
          generalize rd_T39 l0 (n : Int) = xx at *
          have EQ1 := Aside0.mk eq1
          clear eq1
          rw [Int.toNat_natCast] at x0 x1 x2 x3
          go_wp2_with (go_at_call 18; refine (instr_One.calls 5 _ _ _ _ _ _ (instr_One_eq 5 (by omega) _ _ _ _)).mono ?_; rintro e w1 ⟨rfl, hb1⟩)
          have HW1 := Aside0.mk (below_step (HW.out.alloc HW.out.size (.cells #[.int .u16 xx.f0, .int .u8 xx.f1, .int .u8 xx.f2, .int .u32 xx.f3] 39 (0, 0))) hb1)
          have HI1 := Aside0.mk (builder_below (builder_below HI.out ((Below.refl _ _).alloc (Nat.le_refl _) (.cells #[.int .u16 xx.f0, .int .u8 xx.f1, .int .u8 xx.f2, .int .u32 xx.f3] 39 (0, 0)))) hb1)
          have hlen : (Lib.byteCells bs).length + (strOfNums (oneNums xx.f0 xx.f1 xx.f2 xx.f3)).size ≤ 140737488355328 := by
            rw [Lib.byteCells_length, HBS.out, flat_length, strOfNums_size]
            have : (l0.take n).length ≤ 4096 := by rw [List.length_take]; omega
            simp only [oneNums, List.length_cons, List.length_nil]
            omega
          have HL := Aside0.mk hlen
          clear hlen hb1
          refine (gb_write w.heap.size w.heap.size _ _ w1 HI1.out HL.out HW1.out.size).mono ?_
          rintro e w2 ⟨rfl, h2, hb2⟩
          have HI2 := Aside0.mk h2
          have HW2 := Aside0.mk (HW1.out.trans hb2)
          clear h2 hb2
          go_wp2
          go_roundw
          case rel =>
            refine ⟨n + 1, bs ++ oneB xx, by omega, by go_num, ⟨?_⟩, ⟨.inr ?_⟩, HW2⟩
            · rw [flat_take l0 n hlt, ← EQ1.out, HBS.out]
            · rw [byteCells_append]
              exact HI2.out
          case measure => simp [intOf]; omega
        · have hne : bs ≠ [] := by
            rw [HBS.out, List.take_of_length_le (by omega)]
            intro e
            have := flat_length l0
            rw [e] at this
            simp at this
            omega
          have HNE := Aside0.mk hne
          have EN : bs = l0.flatMap oneB := by rw [HBS.out, List.take_of_length_le (by omega)]
          have HEN := Aside0.mk EN
          clear hne EN
          go_wp2_with (go_at_call 23; refine (gb_string_some w.heap.size w.heap.size bs wr HI.out HNE.out).mono ?_; rintro e w2 ⟨rfl, hb2⟩)
          have HW2 := Aside0.mk (HW.out.trans hb2)
          go_ret2
          exact ⟨by rw [← HEN.out]; rfl, HW2.out⟩
end Go.Proofs.Ytjgapcidhoecfaa.Pr
