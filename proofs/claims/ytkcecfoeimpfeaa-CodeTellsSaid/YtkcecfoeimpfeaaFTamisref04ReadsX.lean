-- Made by a program of this session (wip/tools/myprint.sh).
import Derived.Test.YtkcecfoeimpfeaaPr0
import Derived.Test.YtkcecfoeimpfeaaFTamisref04Kind
namespace Go.Proofs.Ytkcecfoeimpfeaa.Pr
open Go.RowKit Go.Proofs.YtkcecfoeimpfeaaW.PrintWords Go.Proofs.YtkcecfoeimpfeaaW.PrintLast Go.Proofs.YtkcecfoeimpfeaaW.PrintMore
attribute [local go_sem] max2_int min2_int max_two min_two max_three min_three max_four min_four   -- for this text's walks alone
set_option linter.unusedVariables false
set_option linter.unusedSimpArgs false

/-! ### tamisref04_ReadsX: function 17 -/
def tamisref04_ReadsX.f (k : Nat) (a0 : Int) : Option (Bool) := (tamisref04_Kind.f k a0).bind fun t134 => (if t134 = 9 then (some true) else (if t134 = 16 then (some true) else (if t134 = 10 then (some ((Int.tmod (IntKind.u16.wrap (Int.tdiv a0 8)) 2) == 1)) else (if t134 = 12 then (some ((Int.tmod (IntKind.u16.wrap (Int.tdiv a0 8)) 2) == 1)) else (some false)))))
theorem tamisref04_ReadsX.mono : ∀ a0 k, LeO (tamisref04_ReadsX.f k a0) (tamisref04_ReadsX.f (k + 1) a0) := by
  intro a0 k
  unfold tamisref04_ReadsX.f
  repeat' first
      | (with_reducible exact tamisref04_Kind.mono _ _)
      | (with_reducible exact LeO.refl _)
      | (with_reducible exact LeO.none _)
      | (with_reducible refine LeO.ite ?_ ?_)
      | (with_reducible refine LeO.bind ?_ (fun _ => ?_))
      | exact tamisref04_Kind.mono _ _
      | exact LeO.none _
      | refine LeO.ite ?_ ?_
      | refine LeO.bind ?_ (fun _ => ?_)
set_option maxHeartbeats 8000000 in
set_option maxRecDepth 100000 in
theorem tamisref04_ReadsX.calls (k : Nat) (a0 : Int) (r : Bool) (w : World) (h : tamisref04_ReadsX.f k a0 = some r) :
    Calls Try.prog 17 #[.int .u16 a0] w fun e w' => e = .returned (.bool r) ∧ Below w.heap.size w w' := by
  have HB := Aside0.mk (Below.refl w.heap.size w)
  have H : ((tamisref04_Kind.f k a0).bind fun t134 => (if t134 = 9 then (some true) else (if t134 = 16 then (some true) else (if t134 = 10 then (some ((Int.tmod (IntKind.u16.wrap (Int.tdiv a0 8)) 2) == 1)) else (if t134 = 12 then (some ((Int.tmod (IntKind.u16.wrap (Int.tdiv a0 8)) 2) == 1)) else (some false)))))) = some r := h
  clear h
  replace H := Option.bind_eq_some_iff.mp H
  obtain ⟨t134, A20, H⟩ := H
  replace H : (if t134 = 9 then (some true) else (if t134 = 16 then (some true) else (if t134 = 10 then (some ((Int.tmod (IntKind.u16.wrap (Int.tdiv a0 8)) 2) == 1)) else (if t134 = 12 then (some ((Int.tmod (IntKind.u16.wrap (Int.tdiv a0 8)) 2) == 1)) else (some false))))) = some r := H
  have A2 := Aside0.mk A20
  clear A20
  by_cases c3 : t134 = 9
  · rw [if_pos c3] at H
    have c3b0 : (t134 == 9) = true := beq_iff_eq.mpr c3
    have c3b1 : (t134 != 9) = false := bne_eq_false_iff_eq.mpr c3
    clear c3
    obtain rfl := Option.some.inj H
    go_enter Try.func17, Try.ntmps17
    go_wp2_with (first | ((with_reducible refine gate_callee (f := 10) rfl ?_); refine goesL_ (some 5) rfl rfl Try.func10 (by kernel_rfl) rfl #[.int .u16 a0] rfl (by (try simp only [List.map_toArray, List.map_cons, List.map_nil]); first | done | rfl | (simp only [List.length_drop, List.length_take]; rfl)) ?_; (with_reducible refine (tamisref04_Kind.calls k a0 t134 _ A2.out).mono ?_); rintro e w4 ⟨rfl, hb⟩; refine ⟨_, rfl, ?_⟩; have n0_ := Aside0.mk (below_step (by repeat (first | (with_reducible first | exact HB.out | apply below_alloc | apply pw_below_drewN | apply below_drew1) | exact HB.out)) hb); clear HB; have HB := n0_; clear n0_; (try clear hb); (try clear hb2); (try clear hk); (try clear hi)))
    go_ret
    exact ⟨by first | rfl | (simp [errW_none, errW_some] <;> rfl) | (simp [*, errW_none, errW_some] <;> rfl), by repeat (first | (with_reducible first | exact HB.out | apply below_alloc | apply pw_below_drewN | apply below_drew1) | exact HB.out)⟩
  · rw [if_neg c3] at H
    have c3b0 : (t134 == 9) = false := beq_eq_false_iff_ne.mpr c3
    have c3b1 : (t134 != 9) = true := bne_iff_ne.mpr c3
    by_cases c5 : t134 = 16
    · rw [if_pos c5] at H
      have c5b0 : (t134 == 16) = true := beq_iff_eq.mpr c5
      have c5b1 : (t134 != 16) = false := bne_eq_false_iff_eq.mpr c5
      clear c5
      obtain rfl := Option.some.inj H
      go_enter Try.func17, Try.ntmps17
      go_wp2_with (first | ((with_reducible refine gate_callee (f := 10) rfl ?_); refine goesL_ (some 5) rfl rfl Try.func10 (by kernel_rfl) rfl #[.int .u16 a0] rfl (by (try simp only [List.map_toArray, List.map_cons, List.map_nil]); first | done | rfl | (simp only [List.length_drop, List.length_take]; rfl)) ?_; (with_reducible refine (tamisref04_Kind.calls k a0 t134 _ A2.out).mono ?_); rintro e w6 ⟨rfl, hb⟩; refine ⟨_, rfl, ?_⟩; have n0_ := Aside0.mk (below_step (by repeat (first | (with_reducible first | exact HB.out | apply below_alloc | apply pw_below_drewN | apply below_drew1) | exact HB.out)) hb); clear HB; have HB := n0_; clear n0_; (try clear hb); (try clear hb2); (try clear hk); (try clear hi)))
      go_ret
      exact ⟨by first | rfl | (simp [errW_none, errW_some] <;> rfl) | (simp [*, errW_none, errW_some] <;> rfl), by repeat (first | (with_reducible first | exact HB.out | apply below_alloc | apply pw_below_drewN | apply below_drew1) | exact HB.out)⟩
    · rw [if_neg c5] at H
      have c5b0 : (t134 == 16) = false := beq_eq_false_iff_ne.mpr c5
      have c5b1 : (t134 != 16) = true := bne_iff_ne.mpr c5
      by_cases c7 : t134 = 10
      · rw [if_pos c7] at H
        have c7b0 : (t134 == 10) = true := beq_iff_eq.mpr c7
        have c7b1 : (t134 != 10) = false := bne_eq_false_iff_eq.mpr c7
        clear c7
        obtain rfl := Option.some.inj H
        go_enter Try.func17, Try.ntmps17
        go_wp2_with (first | ((with_reducible refine gate_callee (f := 10) rfl ?_); refine goesL_ (some 5) rfl rfl Try.func10 (by kernel_rfl) rfl #[.int .u16 a0] rfl (by (try simp only [List.map_toArray, List.map_cons, List.map_nil]); first | done | rfl | (simp only [List.length_drop, List.length_take]; rfl)) ?_; (with_reducible refine (tamisref04_Kind.calls k a0 t134 _ A2.out).mono ?_); rintro e w8 ⟨rfl, hb⟩; refine ⟨_, rfl, ?_⟩; have n0_ := Aside0.mk (below_step (by repeat (first | (with_reducible first | exact HB.out | apply below_alloc | apply pw_below_drewN | apply below_drew1) | exact HB.out)) hb); clear HB; have HB := n0_; clear n0_; (try clear hb); (try clear hb2); (try clear hk); (try clear hi)))
        go_ret
        exact ⟨by first | rfl | (simp [errW_none, errW_some] <;> rfl) | (simp [*, errW_none, errW_some] <;> rfl), by repeat (first | (with_reducible first | exact HB.out | apply below_alloc | apply pw_below_drewN | apply below_drew1) | exact HB.out)⟩
      · rw [if_neg c7] at H
        have c7b0 : (t134 == 10) = false := beq_eq_false_iff_ne.mpr c7
        have c7b1 : (t134 != 10) = true := bne_iff_ne.mpr c7
        by_cases c9 : t134 = 12
        · rw [if_pos c9] at H
          have c9b0 : (t134 == 12) = true := beq_iff_eq.mpr c9
          have c9b1 : (t134 != 12) = false := bne_eq_false_iff_eq.mpr c9
          clear c9
          obtain rfl := Option.some.inj H
          go_enter Try.func17, Try.ntmps17
          go_wp2_with (first | ((with_reducible refine gate_callee (f := 10) rfl ?_); refine goesL_ (some 5) rfl rfl Try.func10 (by kernel_rfl) rfl #[.int .u16 a0] rfl (by (try simp only [List.map_toArray, List.map_cons, List.map_nil]); first | done | rfl | (simp only [List.length_drop, List.length_take]; rfl)) ?_; (with_reducible refine (tamisref04_Kind.calls k a0 t134 _ A2.out).mono ?_); rintro e w10 ⟨rfl, hb⟩; refine ⟨_, rfl, ?_⟩; have n0_ := Aside0.mk (below_step (by repeat (first | (with_reducible first | exact HB.out | apply below_alloc | apply pw_below_drewN | apply below_drew1) | exact HB.out)) hb); clear HB; have HB := n0_; clear n0_; (try clear hb); (try clear hb2); (try clear hk); (try clear hi)))
          go_ret
          exact ⟨by first | rfl | (simp [errW_none, errW_some] <;> rfl) | (simp [*, errW_none, errW_some] <;> rfl), by repeat (first | (with_reducible first | exact HB.out | apply below_alloc | apply pw_below_drewN | apply below_drew1) | exact HB.out)⟩
        · rw [if_neg c9] at H
          have c9b0 : (t134 == 12) = false := beq_eq_false_iff_ne.mpr c9
          have c9b1 : (t134 != 12) = true := bne_iff_ne.mpr c9
          obtain rfl := Option.some.inj H
          go_enter Try.func17, Try.ntmps17
          go_wp2_with (first | ((with_reducible refine gate_callee (f := 10) rfl ?_); refine goesL_ (some 5) rfl rfl Try.func10 (by kernel_rfl) rfl #[.int .u16 a0] rfl (by (try simp only [List.map_toArray, List.map_cons, List.map_nil]); first | done | rfl | (simp only [List.length_drop, List.length_take]; rfl)) ?_; (with_reducible refine (tamisref04_Kind.calls k a0 t134 _ A2.out).mono ?_); rintro e w11 ⟨rfl, hb⟩; refine ⟨_, rfl, ?_⟩; have n0_ := Aside0.mk (below_step (by repeat (first | (with_reducible first | exact HB.out | apply below_alloc | apply pw_below_drewN | apply below_drew1) | exact HB.out)) hb); clear HB; have HB := n0_; clear n0_; (try clear hb); (try clear hb2); (try clear hk); (try clear hi)))
          go_ret
          exact ⟨by first | rfl | (simp [errW_none, errW_some] <;> rfl) | (simp [*, errW_none, errW_some] <;> rfl), by repeat (first | (with_reducible first | exact HB.out | apply below_alloc | apply pw_below_drewN | apply below_drew1) | exact HB.out)⟩

end Go.Proofs.Ytkcecfoeimpfeaa.Pr
