/- An architecture's name is its own; a name of two architectures is a call of each. No condition. -/
import Derived.Test.YtpgjcjgmokfofaaDoorFTamislaw19TableShared
import Derived.Test.YtpgjcjgmokfofaaDoorGPure19
namespace Go.Proofs.YtpgjcjgmokfofaaDoor.Pure
set_option linter.unusedSimpArgs false
set_option linter.unusedVariables false
open Go.RowKit Go.Proofs.YtpgjcjgmokfofaaDoor.Pr Go.Proofs.YtpgjcjgmokfofaaDoorW.PrintWords Go.Proofs.YtpgjcjgmokfofaaDoorW.PrintLast Go.Proofs.YtpgjcjgmokfofaaDoorW.PrintMore

def archS (a : Int) : ByteArray := if a = 3221225534 then ⟨#[120, 56, 54, 95, 54, 52]⟩ else if a = 1073741827 then ⟨#[105, 51, 56, 54]⟩ else if a = 3221225655 then ⟨#[97, 97, 114, 99, 104, 54, 52]⟩ else ⟨#[]⟩
theorem arch_f (a : Int) : table_ArchName.f a = some (archS a) := by
  unfold table_ArchName.f archS
  split
  · rfl
  split
  · rfl
  split <;> rfl
theorem refArch_f (a : Int) : tamisref19_ArchName.f a = some (archS a) := by
  unfold tamisref19_ArchName.f archS
  by_cases c1 : a = 3221225534
  · subst c1; rfl
  by_cases c2 : a = 1073741827
  · subst c2; rfl
  rw [if_neg c2, if_neg c1, if_neg c1, if_neg c2]
  split <;> rfl
/-- Either one of the three, or none. -/
theorem arch_cases (a : Int) : (archS a = ⟨#[]⟩ ∧ table_Arch.f 10 (archS a) = some (0, false)) ∨ (archS a ≠ ⟨#[]⟩ ∧ table_Arch.f 10 (archS a) = some (a, true) ∧ ∀ b, archS b = archS a → b = a) := by
  by_cases c1 : a = 3221225534
  · subst c1
    exact .inr ⟨by decide +kernel, by decide +kernel, fun b h => by
      by_cases e1 : b = 3221225534
      · subst e1; first | rfl | exact absurd h (by decide +kernel)
      by_cases e2 : b = 1073741827
      · subst e2; first | rfl | exact absurd h (by decide +kernel)
      by_cases e3 : b = 3221225655
      · subst e3; first | rfl | exact absurd h (by decide +kernel)
      have e4 : archS b = ⟨#[]⟩ := by unfold archS; rw [if_neg e1, if_neg e2, if_neg e3]
      rw [e4] at h
      exact absurd h (by decide +kernel)⟩
  by_cases c2 : a = 1073741827
  · subst c2
    exact .inr ⟨by decide +kernel, by decide +kernel, fun b h => by
      by_cases e1 : b = 3221225534
      · subst e1; first | rfl | exact absurd h (by decide +kernel)
      by_cases e2 : b = 1073741827
      · subst e2; first | rfl | exact absurd h (by decide +kernel)
      by_cases e3 : b = 3221225655
      · subst e3; first | rfl | exact absurd h (by decide +kernel)
      have e4 : archS b = ⟨#[]⟩ := by unfold archS; rw [if_neg e1, if_neg e2, if_neg e3]
      rw [e4] at h
      exact absurd h (by decide +kernel)⟩
  by_cases c3 : a = 3221225655
  · subst c3
    exact .inr ⟨by decide +kernel, by decide +kernel, fun b h => by
      by_cases e1 : b = 3221225534
      · subst e1; first | rfl | exact absurd h (by decide +kernel)
      by_cases e2 : b = 1073741827
      · subst e2; first | rfl | exact absurd h (by decide +kernel)
      by_cases e3 : b = 3221225655
      · subst e3; first | rfl | exact absurd h (by decide +kernel)
      have e4 : archS b = ⟨#[]⟩ := by unfold archS; rw [if_neg e1, if_neg e2, if_neg e3]
      rw [e4] at h
      exact absurd h (by decide +kernel)⟩
  have e : archS a = ⟨#[]⟩ := by unfold archS; rw [if_neg c1, if_neg c2, if_neg c3]
  exact .inl ⟨e, by rw [e]; decide +kernel⟩
theorem shared_j1 (a0 a1 : Int) (a2 : ByteArray) (w0 : (Lit.int .u32 a0).wf = true) (w1 : (Lit.int .u32 a1).wf = true) (k : Nat) : tamislaw19_TableShared.j1 (k + 1) a0 a1 a2 false = some true := by
  rw [tamislaw19_TableShared.j1]
  rw [if_neg (by decide), find_f w0, Option.bind_some, find_f w1, Option.bind_some]
  rcases findT_cases (tabOf a0) a2 with ⟨h, hm⟩ | ⟨x, hx, h⟩
  · rw [h, if_neg (by decide)]
  · rcases findT_cases (tabOf a1) a2 with ⟨h', hm'⟩ | ⟨y, hy, h'⟩
    · rw [h, h', if_pos rfl, if_neg (by decide)]
    · have wx : (Lit.int .u32 x).wf = true := tabOf_wf a0 _ hx
      have wy : (Lit.int .u32 y).wf = true := tabOf_wf a1 _ hy
      have nx : tAt (tabOf a0) x ≠ ⟨#[]⟩ := by rw [tAt_mem hx]; exact lead_ne (tab_lead a0 _ hx)
      have ny : tAt (tabOf a1) y ≠ ⟨#[]⟩ := by rw [tAt_mem hy]; exact lead_ne (tab_lead a1 _ hy)
      rw [h, h', if_pos rfl, if_pos rfl, print_f w0 wx, Option.bind_some, print_name nx, tAt_mem hx, if_pos rfl, print_f w1 wy, Option.bind_some, print_name ny, tAt_mem hy, if_pos rfl, name_f w0 wx, Option.bind_some, name_f w1 wy, Option.bind_some, tAt_mem hx, tAt_mem hy]
      simp
theorem TableShared (a0 a1 : Int) (a2 : ByteArray) (w0 : (Lit.int .u32 a0).wf = true) (w1 : (Lit.int .u32 a1).wf = true) (w2 : a2.size ≤ 140737488351232) : ∃ k, tamislaw19_TableShared.f k a0 a1 a2 = some true := by
  refine ⟨11, ?_⟩
  unfold tamislaw19_TableShared.f awake19.f
  rw [Option.bind_some, if_pos rfl]
  have hs := shared_j1 a0 a1 a2 w0 w1 9
  have h10 := arch_cases a0
  rw [show (11 : Nat) = 10 + 1 from rfl, tamislaw19_TableShared.j0]
  unfold awake19.f
  generalize 9 = m at hs
  by_cases hb : (a2.size : Int) > 50
  · rw [decide_eq_true hb, if_pos rfl]
    rfl
  rw [decide_eq_false hb, if_neg (by decide), arch_f, Option.bind_some, arch_f, Option.bind_some, refArch_f, refArch_f]
  rcases h10 with ⟨h, hA⟩ | ⟨h, hA, hi⟩
  · rw [hA, Option.bind_some, Option.bind_some, if_pos rfl, Option.bind_some, if_pos rfl, if_pos (tn.2 h), tn.2 h, if_neg (by decide), if_neg (by decide)]
    exact shared_j1 a0 a1 a2 w0 w1 9
  · have hne : ¬ (archS a0).toList = [] := fun q => h (tn.1 q)
    have hq : ((archS a0).toList == (archS a1).toList) = (a0 == a1) := by
      by_cases c : a0 = a1
      · subst c; simp
      · have : (archS a0).toList ≠ (archS a1).toList := fun q => c (hi a1 (te.1 q).symm).symm
        rw [beq_eq_false_iff_ne.2 this, beq_eq_false_iff_ne.2 c]
    rw [hA, Option.bind_some, Option.bind_some, if_pos rfl, Option.bind_some, if_pos rfl, if_neg hne, hq, if_neg (by simp), if_neg (by rw [bne_iff_ne.2 hne]; simp), if_pos rfl, if_pos rfl]
    exact shared_j1 a0 a1 a2 w0 w1 9
end Go.Proofs.YtpgjcjgmokfofaaDoor.Pure
