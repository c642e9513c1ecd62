/- The pure statement of the law FnExactGoodOutflow: the program's function and the reference answer alike. -/
import Derived.Test.YtoifedpioonnnaaSFnExactGoodOutflow
namespace Go.Proofs.Ytoifedpioonnnaa.Pure
open Go.RowKit Go.Proofs.Ytoifedpioonnnaa.PFnExactGoodOutflow Go.Proofs.YtoifedpioonnnaaW.PrintWords Go.Proofs.YtoifedpioonnnaaW.PrintLast Go.Proofs.Ytoifedpioonnnaa.SFnExactGoodOutflow

theorem l1In_eq (a b c : Int) : spec_l1In.f a b c = some (decide (b ≤ a ∧ a ≤ c)) := by
  unfold spec_l1In.f
  by_cases h : b ≤ a
  · rw [if_pos h]; simp [h]
  · rw [if_neg h]; simp [h]
theorem in_eq (a b c : Int) : impl_in.f a b c = some (decide (b ≤ a ∧ a ≤ c)) := l1In_eq a b c

theorem FnExactGoodOutflow : SFnExactGoodOutflow.Pure := by
  intro a b s l _ _ _
  unfold laws_FnExactGoodOutflow.f laws_toOutflow.f laws_szOutflow.f
  have e : impl_GoodOutflow.f a b s l = spec_GoodOutflow.f a b s l := rfl
  have h : ∃ r, spec_GoodOutflow.f a b s l = some r := by
    unfold spec_GoodOutflow.f spec_l1Known.f
    simp only [l1In_eq, Option.bind_some, decide_eq_true_eq]
    repeat' split
    all_goals exact ⟨_, rfl⟩
  obtain ⟨r, hr⟩ := h
  split <;> simp only [Option.bind_some] <;> split
  all_goals first | rfl | simp only [e, hr, Option.bind_some]
  all_goals simp

end Go.Proofs.Ytoifedpioonnnaa.Pure
