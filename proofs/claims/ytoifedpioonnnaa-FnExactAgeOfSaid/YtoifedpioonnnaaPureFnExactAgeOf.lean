/- The pure statement of the law FnExactAgeOf: the program's function and the reference answer alike. -/
import Derived.Test.YtoifedpioonnnaaSFnExactAgeOf
namespace Go.Proofs.Ytoifedpioonnnaa.Pure
open Go.RowKit Go.Proofs.Ytoifedpioonnnaa.PFnExactAgeOf Go.Proofs.YtoifedpioonnnaaW.PrintWords Go.Proofs.YtoifedpioonnnaaW.PrintLast Go.Proofs.Ytoifedpioonnnaa.SFnExactAgeOf

theorem l1In_eq (a b c : Int) : spec_l1In.f a b c = some (decide (b ≤ a ∧ a ≤ c)) := by
  unfold spec_l1In.f
  by_cases h : b ≤ a
  · rw [if_pos h]; simp [h]
  · rw [if_neg h]; simp [h]
theorem in_eq (a b c : Int) : impl_in.f a b c = some (decide (b ≤ a ∧ a ≤ c)) := l1In_eq a b c
theorem and_ite (p q : Prop) [Decidable p] [Decidable q] : (if p then some (decide q) else some false) = some (decide (p ∧ q)) := by
  by_cases h : p <;> simp [h]

theorem minted_eq (s : ByteArray) (a : Int) (l : Bool) : spec_l10Minted.f s a l = some (decide ((s.size : Int) ≤ 20 ∧ 0 ≤ a ∧ a ≤ 1000000000)) := by
  unfold spec_l10Minted.f
  simp only [l1In_eq, Option.bind_some, and_ite]
theorem goodMinted_eq (s : ByteArray) (a : Int) (l : Bool) : impl_goodMinted.f s a l = some (decide ((s.size : Int) ≤ 20 ∧ 0 ≤ a ∧ a ≤ 1000000000)) := by
  unfold impl_goodMinted.f impl_isTime.f
  simp only [in_eq, Option.bind_some, and_ite]
theorem isTime_eq (a : Int) : impl_isTime.f a = some (decide (0 ≤ a ∧ a ≤ 1000000000)) := by
  unfold impl_isTime.f
  simp only [in_eq, Option.bind_some]

theorem FnExactAgeOf : SFnExactAgeOf.Pure := by
  intro s a l b _ _ _
  unfold laws_FnExactAgeOf.f laws_toMinted.f laws_szMinted.f
  have e : impl_AgeOf.f s a l b = spec_AgeOf.f s a l b := by
    unfold impl_AgeOf.f spec_AgeOf.f
    simp only [minted_eq, goodMinted_eq, isTime_eq, l1In_eq]
  have h : ∃ r, spec_AgeOf.f s a l b = some r := by
    unfold spec_AgeOf.f
    simp only [minted_eq, l1In_eq, Option.bind_some, decide_eq_true_eq]
    repeat' split
    all_goals exact ⟨_, rfl⟩
  obtain ⟨r, hr⟩ := h
  split <;> simp only [Option.bind_some] <;> split
  all_goals first | rfl | simp only [e, hr, Option.bind_some]
  all_goals simp

end Go.Proofs.Ytoifedpioonnnaa.Pure
