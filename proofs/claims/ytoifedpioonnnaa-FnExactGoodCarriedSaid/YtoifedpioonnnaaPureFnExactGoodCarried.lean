/- The pure statement of the law FnExactGoodCarried: the program's function and the reference answer alike. -/
import Derived.Test.YtoifedpioonnnaaSFnExactGoodCarried
namespace Go.Proofs.Ytoifedpioonnnaa.Pure
open Go.RowKit Go.Proofs.Ytoifedpioonnnaa.PFnExactGoodCarried Go.Proofs.YtoifedpioonnnaaW.PrintWords Go.Proofs.YtoifedpioonnnaaW.PrintLast Go.Proofs.Ytoifedpioonnnaa.SFnExactGoodCarried

theorem l1In_eq (a b c : Int) : spec_l1In.f a b c = some (decide (b ≤ a ∧ a ≤ c)) := by
  unfold spec_l1In.f
  by_cases h : b ≤ a
  · rw [if_pos h]; simp [h]
  · rw [if_neg h]; simp [h]
theorem in_eq (a b c : Int) : impl_in.f a b c = some (decide (b ≤ a ∧ a ≤ c)) := l1In_eq a b c

theorem FnExactGoodCarried : SFnExactGoodCarried.Pure := by
  intro a b s _ _ _
  unfold laws_FnExactGoodCarried.f laws_toCarried.f laws_szCarried.f
  have h : ∃ r, spec_GoodCarried.f a b s = some r ∧ impl_GoodCarried.f a b s = some r := by
    unfold spec_GoodCarried.f impl_GoodCarried.f spec_l1Known.f impl_isStream.f impl_isVarint.f
    simp only [l1In_eq, in_eq, Option.bind_some, decide_eq_true_eq]
    by_cases h1 : 0 ≤ a ∧ a ≤ 4611686018427387900
    · by_cases h2 : a.tmod 4 = 0
      · simp only [if_pos h1, h2, if_true, Option.bind_some, beq_self_eq_true]
        split
        all_goals exact ⟨_, rfl, rfl⟩
      · have h3 : (a.tmod 4 == 0) = false := by simpa using h2
        simp [h1, h3, h2]
    · simp [h1]
  obtain ⟨r, hr, hi⟩ := h
  split <;> simp only [Option.bind_some] <;> split
  all_goals first | rfl | simp only [hi, hr, Option.bind_some]
  all_goals simp

end Go.Proofs.Ytoifedpioonnnaa.Pure
