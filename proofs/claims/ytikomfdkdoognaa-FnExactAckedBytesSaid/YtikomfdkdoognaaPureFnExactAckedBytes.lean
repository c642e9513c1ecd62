/- The pure statement of the law FnExactAckedBytes: the program's function and the reference answer alike. -/
import Derived.Test.YtikomfdkdoognaaSFnExactAckedBytes
import Derived.Test.YtikomfdkdoognaaLoopK
namespace Go.Proofs.Ytikomfdkdoognaa.Pure
open Go.RowKit Go.Proofs.Ytikomfdkdoognaa.PFnExactAckedBytes Go.Proofs.YtikomfdkdoognaaW.PrintWords Go.Proofs.YtikomfdkdoognaaW.PrintLast Go.Proofs.Ytikomfdkdoognaa.SFnExactAckedBytes
set_option linter.unusedVariables false
set_option linter.unusedSimpArgs false

theorem l1In_eq (a b c : Int) : spec_l1In.f a b c = some (decide (b ≤ a ∧ a ≤ c)) := by
  unfold spec_l1In.f
  by_cases h : b ≤ a
  · rw [if_pos h]; simp [h]
  · rw [if_neg h]; simp [h]
theorem in_eq (a b c : Int) : impl_in.f a b c = some (decide (b ≤ a ∧ a ≤ c)) := l1In_eq a b c
theorem and_ite (p q : Prop) [Decidable p] [Decidable q] : (if p then some (decide q) else some false) = some (decide (p ∧ q)) := by
  by_cases h : p <;> simp [h]

theorem goodWindow_eq (a b c d : Int) : spec_GoodWindow.f a b c d = some (decide ((2400 ≤ a ∧ a ≤ 100000000) ∧ (2400 ≤ b ∧ b ≤ 100000000) ∧ (-1 ≤ c ∧ c ≤ 1000000000) ∧ (0 ≤ d ∧ d ≤ 100000000))) := by
  unfold spec_GoodWindow.f
  simp only [l1In_eq, Option.bind_some, decide_eq_true_eq, and_ite]
theorem goodWindow_ie (a b c d : Int) : impl_GoodWindow.f a b c d = some (decide ((2400 ≤ a ∧ a ≤ 100000000) ∧ (2400 ≤ b ∧ b ≤ 100000000) ∧ (-1 ≤ c ∧ c ≤ 1000000000) ∧ (0 ≤ d ∧ d ≤ 100000000))) := goodWindow_eq a b c d

open Go.Proofs.Ytikomfdkdoognaa.LoopK (copyEv sameEv markEv heldEv foldEv mk mk_length at_lt at_lt' at_nn at_nlt at_stop at_getD at_set at_set2 at_snoc len_snoc at_w w64 chk last_or at_prev at_prev_lt at_prev_nn at_prev_pos at_prev_w pairEv)

/-- Is a window right? -/
def GW (a b c d : Int) : Prop := (2400 ≤ a ∧ a ≤ 100000000) ∧ (2400 ≤ b ∧ b ≤ 100000000) ∧ (-1 ≤ c ∧ c ≤ 1000000000) ∧ (0 ≤ d ∧ d ≤ 100000000)
instance (a b c d : Int) : Decidable (GW a b c d) := by unfold GW; infer_instance
theorem gw_spec (a b c d : Int) : spec_GoodWindow.f a b c d = some (decide (GW a b c d)) := goodWindow_eq a b c d
theorem gw_impl (a b c d : Int) : impl_GoodWindow.f a b c d = some (decide (GW a b c d)) := goodWindow_ie a b c d
theorem l13Size_eq (a : Int) : spec_l13Size.f a = some (decide (0 ≤ a ∧ a ≤ 1500)) := by
  unfold spec_l13Size.f
  simp only [l1In_eq, Option.bind_some]
theorem sizeOk_eq (a : Int) : impl_sizeOk.f a = some (decide (0 ≤ a ∧ a ≤ 1500)) := by
  unfold impl_sizeOk.f
  simp only [in_eq, Option.bind_some]
theorem wtick_eq (a : Int) : spec_l12Tick.f a = some (decide (0 ≤ a ∧ a ≤ 1000000000)) := by
  unfold spec_l12Tick.f
  simp only [l1In_eq, Option.bind_some]
theorem wisTick_eq (a : Int) : impl_isTick.f a = some (decide (0 ≤ a ∧ a ≤ 1000000000)) := by
  unfold impl_isTick.f
  simp only [in_eq, Option.bind_some]

/-- What an acknowledgement makes of a window. -/
def ackedW (a b c d n t : Int) : Int × Int × Int × Int × Bool :=
  if GW a b c d ∧ (0 ≤ n ∧ n ≤ 1500) ∧ (0 ≤ t ∧ t ≤ 1000000000) ∧ ¬ (d < n) then
    (if t > c then
      (if a < b then (if wrap64 (a + n) > 100000000 then (100000000, b, c, wrap64 (d - n), true) else (wrap64 (a + n), b, c, wrap64 (d - n), true))
       else (if wrap64 (a + wrap64 (Int.tdiv (wrap64 (1200 * n)) a)) > 100000000 then (100000000, b, c, wrap64 (d - n), true) else (wrap64 (a + wrap64 (Int.tdiv (wrap64 (1200 * n)) a)), b, c, wrap64 (d - n), true)))
     else (a, b, c, wrap64 (d - n), true))
  else (0, 0, 0, 0, false)
theorem specAcked_ev (a b c d n t : Int) : Ev (fun k => spec_AckedBytes.f k a b c d n t) (ackedW a b c d n t) := by
  unfold spec_AckedBytes.f ackedW
  simp only [gw_spec, l13Size_eq, wtick_eq, Option.bind_some, decide_eq_true_eq]
  by_cases h1 : GW a b c d <;> by_cases h2 : 0 ≤ n ∧ n ≤ 1500 <;> by_cases h3 : 0 ≤ t ∧ t ≤ 1000000000 <;> by_cases h5 : d < n <;>
    simp only [h1, h2, h3, h5, if_true, if_false, and_true, and_false, false_and, not_true_eq_false, not_false_eq_true, decide_true, decide_false, and_self] <;>
    refine LoopK.Ev.succ ?_ <;> simp only [spec_AckedBytes.j0, if_true, if_false, Bool.false_eq_true]
  any_goals exact Ev.now _
  have h0 : ¬ (a = 0) := by have := h1.1; omega
  by_cases h6 : t > c
  · by_cases h7 : a < b
    · by_cases h8 : wrap64 (a + n) > 100000000
      · simp only [h6, h7, h8, if_true]
        exact Ev.now _
      · simp only [h6, h7, h8, if_true, if_false]
        exact Ev.now _
    · by_cases h8 : wrap64 (a + wrap64 (Int.tdiv (wrap64 (1200 * n)) a)) > 100000000
      · simp only [h6, h7, h8, h0, if_true, if_false]
        exact Ev.now _
      · simp only [h6, h7, h8, h0, if_true, if_false]
        exact Ev.now _
  · simp only [h6, if_false]
    exact Ev.now _
theorem implAcked_ev (a b c d n t : Int) : Ev (fun k => impl_AckedBytes.f k a b c d n t) (ackedW a b c d n t) := by
  unfold impl_AckedBytes.f ackedW
  simp only [gw_impl, sizeOk_eq, wisTick_eq, Option.bind_some, decide_eq_true_eq]
  by_cases h1 : GW a b c d <;> by_cases h2 : 0 ≤ n ∧ n ≤ 1500 <;> by_cases h3 : 0 ≤ t ∧ t ≤ 1000000000 <;> by_cases h5 : d < n <;>
    simp only [h1, h2, h3, h5, if_true, if_false, and_true, and_false, false_and, not_true_eq_false, not_false_eq_true, decide_true, decide_false, and_self] <;>
    refine LoopK.Ev.succ ?_ <;> simp only [impl_AckedBytes.j0, if_true, if_false, Bool.false_eq_true]
  any_goals exact Ev.now _
  have h0 : ¬ (a = 0) := by have := h1.1; omega
  by_cases h6 : t > c
  · by_cases h7 : a < b
    · have h7' : ¬ (a ≥ b) := by omega
      by_cases h8 : wrap64 (a + n) > 100000000
      · have h8' : 100000000 < wrap64 (a + n) := h8
        simp only [h6, h7, h7', h8, mn, h8', if_true, if_false]
        exact Ev.now _
      · have h8' : ¬ (100000000 < wrap64 (a + n)) := h8
        simp only [h6, h7, h7', h8, mn, h8', if_true, if_false]
        exact Ev.now _
    · have h7' : a ≥ b := by omega
      by_cases h8 : wrap64 (a + wrap64 (Int.tdiv (wrap64 (1200 * n)) a)) > 100000000
      · have h8' : 100000000 < wrap64 (a + wrap64 (Int.tdiv (wrap64 (1200 * n)) a)) := h8
        simp only [h6, h7, h7', h8, h0, mn, h8', if_true, if_false]
        exact Ev.now _
      · have h8' : ¬ (100000000 < wrap64 (a + wrap64 (Int.tdiv (wrap64 (1200 * n)) a))) := h8
        simp only [h6, h7, h7', h8, h0, mn, h8', if_true, if_false]
        exact Ev.now _
  · simp only [h6, if_false]
    exact Ev.now _

theorem FnExactAckedBytes : SFnExactAckedBytes.Pure := by
  intro a b c d n t _ _ _ _ _ _
  refine Ev.rounds ?_
  unfold laws_FnExactAckedBytes.f laws_toWindow.f laws_eqWindow.f
  simp only [Option.bind_some]
  refine LoopK.Ev.bind_ (specAcked_ev a b c d n t) ?_
  refine LoopK.Ev.bind_ (implAcked_ev a b c d n t) ?_
  simp only [if_true, Option.bind_some, bne_self_eq_false, Bool.false_eq_true, if_false]
  exact Ev.now _

end Go.Proofs.Ytikomfdkdoognaa.Pure
