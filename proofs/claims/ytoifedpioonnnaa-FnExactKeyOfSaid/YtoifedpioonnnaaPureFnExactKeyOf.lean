/- The pure statement of the law FnExactKeyOf: the program's function and the reference answer alike. -/
import Derived.Test.YtoifedpioonnnaaPFnExactKeyOfx1
namespace Go.Proofs.Ytoifedpioonnnaa.Pure
open Go.RowKit Go.Proofs.Ytoifedpioonnnaa.PFnExactKeyOf Go.Proofs.YtoifedpioonnnaaW.PrintWords Go.Proofs.YtoifedpioonnnaaW.PrintLast

theorem l1In_eq (a b c : Int) : spec_l1In.f a b c = some (decide (b ≤ a ∧ a ≤ c)) := by
  unfold spec_l1In.f
  by_cases h : b ≤ a
  · rw [if_pos h]; simp [h]
  · rw [if_neg h]; simp [h]
theorem in_eq (a b c : Int) : impl_in.f a b c = some (decide (b ≤ a ∧ a ≤ c)) := l1In_eq a b c

theorem FnExactKeyOf : laws_FnExactKeyOf.Pure := by
  intro a b l ha hb
  unfold laws_FnExactKeyOf.f
  by_cases h1 : (a.size : Int) > 1048576
  · rw [if_pos h1]
  rw [if_neg h1]
  by_cases h2 : (b.size : Int) > 1048576
  · rw [if_pos h2]
  rw [if_neg h2]
  have e : impl_KeyOf.f a b l = spec_KeyOf.f a b l := rfl
  have s : ∃ r, spec_KeyOf.f a b l = some r := by
    unfold spec_KeyOf.f spec_l10Address.f spec_l11Key.f
    simp only [l1In_eq, Option.bind_some, decide_eq_true_eq]
    rw [if_pos (by omega : 1 + b.size ≤ 9223372036854775807), if_pos (by omega : 1 + a.size ≤ 9223372036854775807)]
    cases l <;> simp only [Option.bind_some, if_true, if_false, Bool.false_eq_true] <;> repeat' split
    all_goals exact ⟨_, rfl⟩
  obtain ⟨r, hr⟩ := s
  rw [e, hr]
  simp

end Go.Proofs.Ytoifedpioonnnaa.Pure
