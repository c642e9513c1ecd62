/- The pure statement of the law FnExactStaticField: the program's function and the reference answer alike. -/
import Derived.Test.YtoifedpioonnnaaPFnExactStaticFieldx1
namespace Go.Proofs.Ytoifedpioonnnaa.Pure
open Go.RowKit Go.Proofs.Ytoifedpioonnnaa.PFnExactStaticField Go.Proofs.YtoifedpioonnnaaW.PrintWords Go.Proofs.YtoifedpioonnnaaW.PrintLast

theorem l1In_eq (a b c : Int) : spec_l1In.f a b c = some (decide (b ≤ a ∧ a ≤ c)) := by
  unfold spec_l1In.f
  by_cases h : b ≤ a
  · rw [if_pos h]; simp [h]
  · rw [if_neg h]; simp [h]
theorem in_eq (a b c : Int) : impl_in.f a b c = some (decide (b ≤ a ∧ a ≤ c)) := l1In_eq a b c
theorem and_ite (p q : Prop) [Decidable p] [Decidable q] : (if p then some (decide q) else some false) = some (decide (p ∧ q)) := by
  by_cases h : p <;> simp [h]

theorem FnExactStaticField : laws_FnExactStaticField.Pure := by
  intro a ha
  obtain ⟨L, e, hl⟩ : ∃ L, spec_l15Static.f = some L ∧ L.length = 16 := ⟨_, rfl, rfl⟩
  have e2 : impl_static.f = some L := e
  unfold laws_FnExactStaticField.f spec_StaticField.f impl_StaticField.f
  simp only [e, e2, l1In_eq, in_eq, Option.bind_some, decide_eq_true_eq, hl]
  have e3 : wrap64 (((16 : Nat) : Int) - 1) = 15 := by unfold wrap64; omega
  rw [e3]
  by_cases h : 0 ≤ a ∧ a ≤ 15
  · have h1 : 0 ≤ a := h.1
    have h2 : a < ((16 : Nat) : Int) := by omega
    rw [if_pos h, if_pos h1, if_pos h2]
    simp [laws_eqField.f]
  · rw [if_neg h]
    simp [laws_eqField.f]

end Go.Proofs.Ytoifedpioonnnaa.Pure
