/- The pure statement of the law FnExactSampleRtt: the program's function and the reference answer alike. -/
import Derived.Test.YtikomfdkdoognaaSFnExactSampleRtt
import Derived.Test.YtikomfdkdoognaaLoopK
namespace Go.Proofs.Ytikomfdkdoognaa.Pure
open Go.RowKit Go.Proofs.Ytikomfdkdoognaa.PFnExactSampleRtt Go.Proofs.YtikomfdkdoognaaW.PrintWords Go.Proofs.YtikomfdkdoognaaW.PrintLast Go.Proofs.Ytikomfdkdoognaa.SFnExactSampleRtt
set_option linter.unusedVariables false
set_option linter.unusedSimpArgs false

theorem l1In_eq (a b c : Int) : spec_l1In.f a b c = some (decide (b ≤ a ∧ a ≤ c)) := by
  unfold spec_l1In.f
  by_cases h : b ≤ a
  · rw [if_pos h]; simp [h]
  · rw [if_neg h]; simp [h]
theorem in_eq (a b c : Int) : impl_in.f a b c = some (decide (b ≤ a ∧ a ≤ c)) := l1In_eq a b c
theorem and_ite (p q : Prop) [Decidable p] [Decidable q] : (if p then some (decide q) else some false) = some (decide (p ∧ q)) := by
  by_cases h : p <;> simp [h]

theorem tick_eq (a : Int) : spec_l12Tick.f a = some (decide (0 ≤ a ∧ a ≤ 1000000000)) := by
  unfold spec_l12Tick.f
  simp only [l1In_eq, Option.bind_some]
theorem isTick_eq (a : Int) : impl_isTick.f a = some (decide (0 ≤ a ∧ a ≤ 1000000000)) := by
  unfold impl_isTick.f
  simp only [in_eq, Option.bind_some]
/-- A right round trip. -/
def RttOk (k : Bool) (a b c d : Int) : Prop := if k = true then (0 ≤ b ∧ b ≤ 1000000000) ∧ (b ≤ a ∧ a ≤ 1000000000) ∧ (0 ≤ c ∧ c ≤ 1000000000) ∧ (0 ≤ d ∧ d ≤ 1000000000) else a = 0 ∧ b = 0 ∧ c = 0 ∧ d = 0
instance (k : Bool) (a b c d : Int) : Decidable (RttOk k a b c d) := by unfold RttOk; infer_instance
theorem l12Rtt_eq (k : Bool) (a b c d : Int) : spec_l12Rtt.f k a b c d = some (decide (RttOk k a b c d)) := by
  unfold spec_l12Rtt.f RttOk
  simp only [tick_eq, l1In_eq, Option.bind_some, decide_eq_true_eq, and_ite]
  cases k
  · simp [Bool.decide_and, Bool.beq_eq_decide_eq]
  · simp
theorem goodRtt_eq (k : Bool) (a b c d : Int) : impl_goodRtt.f k a b c d = some (decide (RttOk k a b c d)) := by
  unfold impl_goodRtt.f RttOk
  simp only [isTick_eq, Option.bind_some, decide_eq_true_eq, and_ite]
  cases k
  · simp [Bool.decide_and, Bool.beq_eq_decide_eq]
  · simp only [if_true, ge_iff_le]
    congr 1
    rw [decide_eq_decide]
    omega

open Go.Proofs.Ytikomfdkdoognaa.LoopK (copyEv sameEv markEv heldEv foldEv mk mk_length at_lt at_lt' at_nn at_nlt at_stop at_getD at_set at_set2 at_snoc len_snoc at_w w64 chk last_or at_prev at_prev_lt at_prev_nn at_prev_pos at_prev_w pairEv)

/-- A round trip with a further one. -/
def smp (k : Bool) (a b c d l y : Int) : Bool × Int × Int × Int × Int :=
  if k = true then
    (let m := if l < b then l else b
     if wrap64 (l - y) ≥ m then (k, l, m, wrap64 (Int.tdiv (wrap64 (wrap64 (7 * c) + wrap64 (l - y))) 8), wrap64 (Int.tdiv (wrap64 (wrap64 (3 * d) + (if wrap64 (c - wrap64 (l - y)) < 0 then wrap64 (-(wrap64 (c - wrap64 (l - y)))) else wrap64 (c - wrap64 (l - y))))) 4))
     else (k, l, m, wrap64 (Int.tdiv (wrap64 (wrap64 (7 * c) + l)) 8), wrap64 (Int.tdiv (wrap64 (wrap64 (3 * d) + (if wrap64 (c - l) < 0 then wrap64 (-(wrap64 (c - l))) else wrap64 (c - l)))) 4)))
  else (true, l, l, l, wrap64 (Int.tdiv l 2))
theorem l12Sample_ev (k : Bool) (a b c d l y : Int) : Ev (fun n => spec_l12Sample.f n k a b c d l y) (smp k a b c d l y) := by
  unfold spec_l12Sample.f smp
  cases k with
  | false => exact Ev.now _
  | true =>
    simp only [if_true]
    have key : ∀ m : Int, Ev (fun n => spec_l12Sample.j0 n l y true l m c d) (if wrap64 (l - y) ≥ m then (true, l, m, wrap64 (Int.tdiv (wrap64 (wrap64 (7 * c) + wrap64 (l - y))) 8), wrap64 (Int.tdiv (wrap64 (wrap64 (3 * d) + (if wrap64 (c - wrap64 (l - y)) < 0 then wrap64 (-(wrap64 (c - wrap64 (l - y)))) else wrap64 (c - wrap64 (l - y))))) 4))
        else (true, l, m, wrap64 (Int.tdiv (wrap64 (wrap64 (7 * c) + l)) 8), wrap64 (Int.tdiv (wrap64 (wrap64 (3 * d) + (if wrap64 (c - l) < 0 then wrap64 (-(wrap64 (c - l))) else wrap64 (c - l)))) 4))) := by
      intro m
      refine LoopK.Ev.succ ?_
      simp only [spec_l12Sample.j0]
      by_cases h1 : wrap64 (l - y) ≥ m
      · by_cases h2 : wrap64 (c - wrap64 (l - y)) < 0
        · simp only [h1, h2, if_true]
          exact Ev.now _
        · simp only [h1, h2, if_true, if_false]
          exact Ev.now _
      · by_cases h2 : wrap64 (c - l) < 0
        · simp only [h1, h2, if_true, if_false]
          exact Ev.now _
        · simp only [h1, h2, if_false]
          exact Ev.now _
    by_cases h : l < b
    · simp only [h, if_true]
      exact key l
    · simp only [h, if_false]
      exact key b
theorem sampled_eq (k : Bool) (a b c d l y : Int) (hr : RttOk k a b c d) (hl : 0 ≤ l ∧ l ≤ 1000000000) (hy : 0 ≤ y ∧ y ≤ 1000000000) : impl_sampled.f k a b c d l y = some (smp k a b c d l y) := by
  unfold impl_sampled.f smp
  cases k with
  | false => rfl
  | true =>
    simp only [if_true]
    have hv : (0 ≤ b ∧ b ≤ 1000000000) ∧ (b ≤ a ∧ a ≤ 1000000000) ∧ (0 ≤ c ∧ c ≤ 1000000000) ∧ (0 ≤ d ∧ d ≤ 1000000000) := by simpa [RttOk] using hr
    have em : mn l b = if l < b then l else b := by unfold mn; split <;> split <;> omega
    have ea : ∀ q : Int, -9000000000000 ≤ q → q ≤ 9000000000000 → mx (wrap64 q) (wrap64 (-(wrap64 q))) = if wrap64 q < 0 then wrap64 (-(wrap64 q)) else wrap64 q := by
      intro q h1 h2
      rw [w64 q (by omega), w64 (-q) (by omega)]
      unfold mx
      split <;> split <;> omega
    have e1 : wrap64 (l - y) = l - y := w64 _ (by omega)
    rw [em, ea (c - l) (by omega) (by omega), ea (c - wrap64 (l - y)) (by omega) (by omega)]
    generalize (if l < b then l else b) = m
    by_cases h : wrap64 (l - y) ≥ m <;> simp only [h, if_true, if_false]

theorem FnExactSampleRtt : SFnExactSampleRtt.Pure := by
  intro k a b c d l y _ _ _ _ _ _
  refine Ev.rounds ?_
  unfold laws_FnExactSampleRtt.f laws_toRtt.f laws_eqRtt.f
  simp only [Option.bind_some]
  have h : ∃ r, Ev (fun n => spec_SampleRtt.f n k a b c d l y) r ∧ impl_SampleRtt.f k a b c d l y = some r := by
    unfold spec_SampleRtt.f impl_SampleRtt.f
    simp only [l12Rtt_eq, goodRtt_eq, tick_eq, isTick_eq, Option.bind_some, decide_eq_true_eq]
    by_cases hr : RttOk k a b c d
    · by_cases hl : 0 ≤ l ∧ l ≤ 1000000000
      · by_cases hy : 0 ≤ y ∧ y ≤ 1000000000
        · simp only [hr, hl, hy, and_self, if_true, sampled_eq k a b c d l y hr hl hy, Option.bind_some]
          exact ⟨_, LoopK.Ev.bind_ (l12Sample_ev k a b c d l y) (Ev.now _), rfl⟩
        · simp only [hr, hl, hy, and_self, if_true, if_false]
          exact ⟨_, Ev.now _, rfl⟩
      · simp only [hr, hl, if_true, if_false]
        exact ⟨_, Ev.now _, rfl⟩
    · simp only [hr, if_false]
      exact ⟨_, Ev.now _, rfl⟩
  obtain ⟨r, h1, h2⟩ := h
  refine LoopK.Ev.bind_ h1 ?_
  simp only [h2, if_true, Option.bind_some, bne_self_eq_false, Bool.false_eq_true, if_false]
  exact Ev.now _

end Go.Proofs.Ytikomfdkdoognaa.Pure
