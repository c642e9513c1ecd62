/- The pure statement of the law FnExactRoomIn: the program's function and the reference answer alike. -/
import Derived.Test.YtoifedpioonnnaaSFnExactRoomIn
namespace Go.Proofs.Ytoifedpioonnnaa.Pure
open Go.RowKit Go.Proofs.Ytoifedpioonnnaa.PFnExactRoomIn Go.Proofs.YtoifedpioonnnaaW.PrintWords Go.Proofs.YtoifedpioonnnaaW.PrintLast Go.Proofs.Ytoifedpioonnnaa.SFnExactRoomIn

theorem l1In_eq (a b c : Int) : spec_l1In.f a b c = some (decide (b ≤ a ∧ a ≤ c)) := by
  unfold spec_l1In.f
  by_cases h : b ≤ a
  · rw [if_pos h]; simp [h]
  · rw [if_neg h]; simp [h]
theorem in_eq (a b c : Int) : impl_in.f a b c = some (decide (b ≤ a ∧ a ≤ c)) := l1In_eq a b c
theorem and_ite (p q : Prop) [Decidable p] [Decidable q] : (if p then some (decide q) else some false) = some (decide (p ∧ q)) := by
  by_cases h : p <;> simp [h]

theorem goodWindow_eq (a b c d : Int) : spec_GoodWindow.f a b c d = some (decide ((2400 ≤ a ∧ a ≤ 100000000) ∧ (2400 ≤ b ∧ b ≤ 100000000) ∧ (-1 ≤ c ∧ c ≤ 1000000000) ∧ (0 ≤ d ∧ d ≤ 100000000))) := by
  unfold spec_GoodWindow.f
  simp only [l1In_eq, Option.bind_some, decide_eq_true_eq, and_ite]
theorem goodWindow_ie (a b c d : Int) : impl_GoodWindow.f a b c d = some (decide ((2400 ≤ a ∧ a ≤ 100000000) ∧ (2400 ≤ b ∧ b ≤ 100000000) ∧ (-1 ≤ c ∧ c ≤ 1000000000) ∧ (0 ≤ d ∧ d ≤ 100000000))) := goodWindow_eq a b c d

theorem FnExactRoomIn : SFnExactRoomIn.Pure := by
  intro a b c d _ _ _ _
  unfold laws_FnExactRoomIn.f laws_toWindow.f spec_RoomIn.f impl_RoomIn.f
  simp only [Option.bind_some, goodWindow_eq, goodWindow_ie, decide_eq_true_eq]
  split
  · rename_i h
    have e : wrap64 (a - d) = a - d := by unfold wrap64; omega
    rw [e]
    have e2 : mx (a - d) 0 = if d > a then 0 else a - d := by unfold mx; split <;> split <;> omega
    rw [e2]
    by_cases h2 : d > a
    · simp [h2]
    · simp [h2]
  · simp

end Go.Proofs.Ytoifedpioonnnaa.Pure
