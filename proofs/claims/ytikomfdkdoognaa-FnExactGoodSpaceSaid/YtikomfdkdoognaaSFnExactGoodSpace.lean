/- The pure statement of the law FnExactGoodSpace: what its printed function answers, at every argument that can be read. -/
import Derived.Test.YtikomfdkdoognaaPFnExactGoodSpacex7
namespace Go.Proofs.Ytikomfdkdoognaa.SFnExactGoodSpace
open Go.RowKit Go.Proofs.Ytikomfdkdoognaa.PFnExactGoodSpace Go.Proofs.YtikomfdkdoognaaW.PrintWords Go.Proofs.YtikomfdkdoognaaW.PrintLast
def ok139 (x : S139) : Prop := (-9223372036854775808 ≤ x.f0 ∧ x.f0 ≤ 9223372036854775807) ∧ (-9223372036854775808 ≤ x.f1 ∧ x.f1 ≤ 9223372036854775807) ∧ (-9223372036854775808 ≤ x.f2 ∧ x.f2 ≤ 9223372036854775807)
/-- What is left to prove. -/
def Pure : Prop := ∀ (a0_0 : Int) (l0_1 : List (S139)) (a0_2 : Bool) (a0_3 : Int) (a0_4 : Int) (a0_5 : Int) (a0_6 : Int), (-9223372036854775808 ≤ a0_0 ∧ a0_0 ≤ 9223372036854775807) → ((l0_1.length * 24 ≤ 140737488351232 ∧ l0_1.length ≤ 9223372036854775807 ∧ ∀ z, z ∈ l0_1 → ok139 z)) → (-9223372036854775808 ≤ a0_3 ∧ a0_3 ≤ 9223372036854775807) → (-9223372036854775808 ≤ a0_4 ∧ a0_4 ≤ 9223372036854775807) → (-9223372036854775808 ≤ a0_5 ∧ a0_5 ≤ 9223372036854775807) → (-9223372036854775808 ≤ a0_6 ∧ a0_6 ≤ 9223372036854775807) → ∃ k, laws_FnExactGoodSpace.f k a0_0 l0_1 a0_2 a0_3 a0_4 a0_5 a0_6 = some true
end Go.Proofs.Ytikomfdkdoognaa.SFnExactGoodSpace
