/- The pure statement of the law FnExactHasNumber: what its printed function answers, at every argument that can be read. -/
import Derived.Test.YtikomfdkdoognaaPFnExactHasNumberx4
namespace Go.Proofs.Ytikomfdkdoognaa.SFnExactHasNumber
open Go.RowKit Go.Proofs.Ytikomfdkdoognaa.PFnExactHasNumber Go.Proofs.YtikomfdkdoognaaW.PrintWords Go.Proofs.YtikomfdkdoognaaW.PrintLast
def ok106 (x : S106) : Prop := (-9223372036854775808 ≤ x.f0 ∧ x.f0 ≤ 9223372036854775807) ∧ (-9223372036854775808 ≤ x.f1 ∧ x.f1 ≤ 9223372036854775807)
/-- What is left to prove. -/
def Pure : Prop := ∀ (l0 : List (S106)) (a1 : Int), ((l0.length * 16 ≤ 140737488351232 ∧ l0.length ≤ 9223372036854775807 ∧ ∀ z, z ∈ l0 → ok106 z)) → (-9223372036854775808 ≤ a1 ∧ a1 ≤ 9223372036854775807) → ∃ k, laws_FnExactHasNumber.f k l0 a1 = some true
end Go.Proofs.Ytikomfdkdoognaa.SFnExactHasNumber
