/- The pure statement of the law FnExactStalledWindow: the program's function and the reference answer alike. -/
import Derived.Test.YtoifedpioonnnaaSFnExactStalledWindow
namespace Go.Proofs.Ytoifedpioonnnaa.Pure
open Go.RowKit Go.Proofs.Ytoifedpioonnnaa.PFnExactStalledWindow Go.Proofs.YtoifedpioonnnaaW.PrintWords Go.Proofs.YtoifedpioonnnaaW.PrintLast Go.Proofs.Ytoifedpioonnnaa.SFnExactStalledWindow

theorem l1In_eq (a b c : Int) : spec_l1In.f a b c = some (decide (b ≤ a ∧ a ≤ c)) := by
  unfold spec_l1In.f
  by_cases h : b ≤ a
  · rw [if_pos h]; simp [h]
  · rw [if_neg h]; simp [h]
theorem in_eq (a b c : Int) : impl_in.f a b c = some (decide (b ≤ a ∧ a ≤ c)) := l1In_eq a b c
theorem and_ite (p q : Prop) [Decidable p] [Decidable q] : (if p then some (decide q) else some false) = some (decide (p ∧ q)) := by
  by_cases h : p <;> simp [h]

theorem goodWindow_eq (a b c d : Int) : spec_GoodWindow.f a b c d = some (decide ((2400 ≤ a ∧ a ≤ 100000000) ∧ (2400 ≤ b ∧ b ≤ 100000000) ∧ (-1 ≤ c ∧ c ≤ 1000000000) ∧ (0 ≤ d ∧ d ≤ 100000000))) := by
  unfold spec_GoodWindow.f
  simp only [l1In_eq, Option.bind_some, decide_eq_true_eq, and_ite]
theorem goodWindow_ie (a b c d : Int) : impl_GoodWindow.f a b c d = some (decide ((2400 ≤ a ∧ a ≤ 100000000) ∧ (2400 ≤ b ∧ b ≤ 100000000) ∧ (-1 ≤ c ∧ c ≤ 1000000000) ∧ (0 ≤ d ∧ d ≤ 100000000))) := goodWindow_eq a b c d

theorem FnExactStalledWindow : SFnExactStalledWindow.Pure := by
  intro a b c d _ _ _ _
  unfold laws_FnExactStalledWindow.f laws_toWindow.f spec_StalledWindow.f impl_StalledWindow.f laws_eqWindow.f
  simp only [Option.bind_some, goodWindow_eq, goodWindow_ie, decide_eq_true_eq]
  split
  all_goals simp

end Go.Proofs.Ytoifedpioonnnaa.Pure
