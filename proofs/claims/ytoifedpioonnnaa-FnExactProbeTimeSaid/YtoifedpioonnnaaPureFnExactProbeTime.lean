/- The pure statement of the law FnExactProbeTime: the program's function and the reference answer alike. -/
import Derived.Test.YtoifedpioonnnaaSFnExactProbeTime
namespace Go.Proofs.Ytoifedpioonnnaa.Pure
open Go.RowKit Go.Proofs.Ytoifedpioonnnaa.PFnExactProbeTime Go.Proofs.YtoifedpioonnnaaW.PrintWords Go.Proofs.YtoifedpioonnnaaW.PrintLast Go.Proofs.Ytoifedpioonnnaa.SFnExactProbeTime

theorem l1In_eq (a b c : Int) : spec_l1In.f a b c = some (decide (b ≤ a ∧ a ≤ c)) := by
  unfold spec_l1In.f
  by_cases h : b ≤ a
  · rw [if_pos h]; simp [h]
  · rw [if_neg h]; simp [h]
theorem in_eq (a b c : Int) : impl_in.f a b c = some (decide (b ≤ a ∧ a ≤ c)) := l1In_eq a b c
theorem and_ite (p q : Prop) [Decidable p] [Decidable q] : (if p then some (decide q) else some false) = some (decide (p ∧ q)) := by
  by_cases h : p <;> simp [h]

theorem tick_eq (a : Int) : spec_l12Tick.f a = some (decide (0 ≤ a ∧ a ≤ 1000000000)) := by
  unfold spec_l12Tick.f
  simp only [l1In_eq, Option.bind_some]
theorem isTick_eq (a : Int) : impl_isTick.f a = some (decide (0 ≤ a ∧ a ≤ 1000000000)) := by
  unfold impl_isTick.f
  simp only [in_eq, Option.bind_some]
/-- A right round trip. -/
def RttOk (k : Bool) (a b c d : Int) : Prop := if k = true then (0 ≤ b ∧ b ≤ 1000000000) ∧ (b ≤ a ∧ a ≤ 1000000000) ∧ (0 ≤ c ∧ c ≤ 1000000000) ∧ (0 ≤ d ∧ d ≤ 1000000000) else a = 0 ∧ b = 0 ∧ c = 0 ∧ d = 0
instance (k : Bool) (a b c d : Int) : Decidable (RttOk k a b c d) := by unfold RttOk; infer_instance
theorem l12Rtt_eq (k : Bool) (a b c d : Int) : spec_l12Rtt.f k a b c d = some (decide (RttOk k a b c d)) := by
  unfold spec_l12Rtt.f RttOk
  simp only [tick_eq, l1In_eq, Option.bind_some, decide_eq_true_eq, and_ite]
  cases k
  · simp [Bool.decide_and, Bool.beq_eq_decide_eq]
  · simp
theorem goodRtt_eq (k : Bool) (a b c d : Int) : impl_goodRtt.f k a b c d = some (decide (RttOk k a b c d)) := by
  unfold impl_goodRtt.f RttOk
  simp only [isTick_eq, Option.bind_some, decide_eq_true_eq, and_ite]
  cases k
  · simp [Bool.decide_and, Bool.beq_eq_decide_eq]
  · simp only [if_true, ge_iff_le]
    congr 1
    rw [decide_eq_decide]
    omega

theorem shl_nonneg_eq (y : Int) (h0 : 0 ≤ y) (h : y ≤ 10) : IntKind.u64.wrap y = y := by
  simp [IntKind.wrap, IntKind.bits, IntKind.signed]
  omega
theorem FnExactProbeTime : SFnExactProbeTime.Pure := by
  intro k a b c d delay tries ha hb hc hd h1 h2
  refine ⟨1, ?_⟩
  unfold laws_FnExactProbeTime.f laws_toRtt.f spec_ProbeTime.f impl_ProbeTime.f
  simp only [l12Rtt_eq, goodRtt_eq, tick_eq, isTick_eq, l1In_eq, in_eq, Option.bind_some, decide_eq_true_eq, spec_ProbeTime.j0, impl_ProbeTime.j0]
  by_cases hr : RttOk k a b c d
  · by_cases hdl : 0 ≤ delay ∧ delay ≤ 1000000000
    · by_cases ht : 0 ≤ tries ∧ tries ≤ 10
      · have hw : IntKind.u64.wrap tries = tries := shl_nonneg_eq tries ht.1 ht.2
        simp only [hr, hdl, ht, if_true, decide_true, Bool.not_true, Bool.false_eq_true, if_false, hw, and_self]
        cases k
        · simp
        · have hv : 0 ≤ d ∧ d ≤ 1000000000 := by unfold RttOk at hr; simp at hr; omega
          have h4 : wrap64 (4 * d) = 4 * d := by unfold wrap64; omega
          rw [h4]
          by_cases hl : 4 * d < 1
          · have : mx (4 * d) 1 = 1 := by unfold mx; split <;> omega
            simp [hl, this]
          · have : mx (4 * d) 1 = 4 * d := by unfold mx; split <;> omega
            simp [hl, this]
      · simp [hr, hdl, ht]
    · simp [hr, hdl]
  · simp [hr]

end Go.Proofs.Ytoifedpioonnnaa.Pure
