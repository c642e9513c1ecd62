/- The pure statement of the law FnExactIsDone: what its printed function answers, at every argument that can be read. -/
import Derived.Test.YtikomfdkdoognaaPFnExactIsDonex6
namespace Go.Proofs.Ytikomfdkdoognaa.SFnExactIsDone
open Go.RowKit Go.Proofs.Ytikomfdkdoognaa.PFnExactIsDone Go.Proofs.YtikomfdkdoognaaW.PrintWords Go.Proofs.YtikomfdkdoognaaW.PrintLast
def ok136 (x : S136) : Prop := (-9223372036854775808 ≤ x.f0 ∧ x.f0 ≤ 9223372036854775807) ∧ (x.f1.size ≤ 140737488351232)
/-- What is left to prove. -/
def Pure : Prop := ∀ (a0_0 : Int) (a0_1 : Int) (a0_2 : Int) (l0_3 : List (S136)), (-9223372036854775808 ≤ a0_0 ∧ a0_0 ≤ 9223372036854775807) → (-9223372036854775808 ≤ a0_1 ∧ a0_1 ≤ 9223372036854775807) → (-9223372036854775808 ≤ a0_2 ∧ a0_2 ≤ 9223372036854775807) → ((l0_3.length * 24 ≤ 140737488351232 ∧ l0_3.length ≤ 9223372036854775807 ∧ ∀ z, z ∈ l0_3 → ok136 z)) → ∃ k, laws_FnExactIsDone.f k a0_0 a0_1 a0_2 l0_3 = some true
end Go.Proofs.Ytikomfdkdoognaa.SFnExactIsDone
