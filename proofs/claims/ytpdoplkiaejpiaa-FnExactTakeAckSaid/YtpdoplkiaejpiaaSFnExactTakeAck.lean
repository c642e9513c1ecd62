/- The pure statement of the law FnExactTakeAck: what its printed function answers, at every argument that can be read. -/
import Derived.Test.YtpdoplkiaejpiaaPFnExactTakeAckx13
namespace Go.Proofs.Ytpdoplkiaejpiaa.SFnExactTakeAck
open Go.RowKit Go.Proofs.Ytpdoplkiaejpiaa.PFnExactTakeAck Go.Proofs.YtpdoplkiaejpiaaW.PrintWords Go.Proofs.YtpdoplkiaejpiaaW.PrintLast
def ok136 (x : S136) : Prop := (-9223372036854775808 ≤ x.f0 ∧ x.f0 ≤ 9223372036854775807) ∧ (-9223372036854775808 ≤ x.f1 ∧ x.f1 ≤ 9223372036854775807) ∧ (-9223372036854775808 ≤ x.f2 ∧ x.f2 ≤ 9223372036854775807)
def ok99 (x : S99) : Prop := (-9223372036854775808 ≤ x.f0 ∧ x.f0 ≤ 9223372036854775807) ∧ (-9223372036854775808 ≤ x.f1 ∧ x.f1 ≤ 9223372036854775807)
/-- What is left to prove. -/
def Pure : Prop := ∀ (a0_0 : Int) (l0_1 : List (S136)) (a0_2 : Bool) (a0_3 : Int) (a0_4 : Int) (a0_5 : Int) (a0_6 : Int) (l1 : List (S99)) (a2 : Int) (a3 : Int), (-9223372036854775808 ≤ a0_0 ∧ a0_0 ≤ 9223372036854775807) → ((l0_1.length * 24 ≤ 140737488351232 ∧ l0_1.length ≤ 9223372036854775807 ∧ ∀ z, z ∈ l0_1 → ok136 z)) → (-9223372036854775808 ≤ a0_3 ∧ a0_3 ≤ 9223372036854775807) → (-9223372036854775808 ≤ a0_4 ∧ a0_4 ≤ 9223372036854775807) → (-9223372036854775808 ≤ a0_5 ∧ a0_5 ≤ 9223372036854775807) → (-9223372036854775808 ≤ a0_6 ∧ a0_6 ≤ 9223372036854775807) → ((l1.length * 16 ≤ 140737488351232 ∧ l1.length ≤ 9223372036854775807 ∧ ∀ z, z ∈ l1 → ok99 z)) → (-9223372036854775808 ≤ a2 ∧ a2 ≤ 9223372036854775807) → (-9223372036854775808 ≤ a3 ∧ a3 ≤ 9223372036854775807) → ∃ k, laws_FnExactTakeAck.f k a0_0 l0_1 a0_2 a0_3 a0_4 a0_5 a0_6 l1 a2 a3 = some true
end Go.Proofs.Ytpdoplkiaejpiaa.SFnExactTakeAck
