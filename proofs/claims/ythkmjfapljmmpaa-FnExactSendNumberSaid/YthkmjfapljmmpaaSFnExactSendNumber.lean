/- The pure statement of the law FnExactSendNumber: what its printed function answers, at every argument that can be read. -/
import Derived.Test.YthkmjfapljmmpaaPFnExactSendNumberx11
namespace Go.Proofs.Ythkmjfapljmmpaa.SFnExactSendNumber
open Go.RowKit Go.Proofs.Ythkmjfapljmmpaa.PFnExactSendNumber Go.Proofs.YthkmjfapljmmpaaW.PrintWords Go.Proofs.YthkmjfapljmmpaaW.PrintLast
def ok74 (x : S74) : Prop := (-9223372036854775808 ≤ x.f0 ∧ x.f0 ≤ 9223372036854775807) ∧ (-9223372036854775808 ≤ x.f1 ∧ x.f1 ≤ 9223372036854775807) ∧ (-9223372036854775808 ≤ x.f2 ∧ x.f2 ≤ 9223372036854775807)
/-- What is left to prove. -/
def Pure : Prop := ∀ (a0_0 : Int) (l0_1 : List (S74)) (a0_2 : Bool) (a0_3 : Int) (a0_4 : Int) (a0_5 : Int) (a0_6 : Int) (a1_0 : Int) (a1_1 : Int) (a1_2 : Int), (-9223372036854775808 ≤ a0_0 ∧ a0_0 ≤ 9223372036854775807) → ((l0_1.length * 24 ≤ 140737488351232 ∧ l0_1.length ≤ 9223372036854775807 ∧ ∀ z, z ∈ l0_1 → ok74 z)) → (-9223372036854775808 ≤ a0_3 ∧ a0_3 ≤ 9223372036854775807) → (-9223372036854775808 ≤ a0_4 ∧ a0_4 ≤ 9223372036854775807) → (-9223372036854775808 ≤ a0_5 ∧ a0_5 ≤ 9223372036854775807) → (-9223372036854775808 ≤ a0_6 ∧ a0_6 ≤ 9223372036854775807) → (-9223372036854775808 ≤ a1_0 ∧ a1_0 ≤ 9223372036854775807) → (-9223372036854775808 ≤ a1_1 ∧ a1_1 ≤ 9223372036854775807) → (-9223372036854775808 ≤ a1_2 ∧ a1_2 ≤ 9223372036854775807) → ∃ k, laws_FnExactSendNumber.f k a0_0 l0_1 a0_2 a0_3 a0_4 a0_5 a0_6 a1_0 a1_1 a1_2 = some true
end Go.Proofs.Ythkmjfapljmmpaa.SFnExactSendNumber
