/- The pure statement of the law FnExactPlayWindow: what its printed function answers, at every argument that can be read. -/
import Derived.Test.YthkmjfapljmmpaaPFnExactPlayWindowx8
namespace Go.Proofs.Ythkmjfapljmmpaa.SFnExactPlayWindow
open Go.RowKit Go.Proofs.Ythkmjfapljmmpaa.PFnExactPlayWindow Go.Proofs.YthkmjfapljmmpaaW.PrintWords Go.Proofs.YthkmjfapljmmpaaW.PrintLast
def ok194 (x : S194) : Prop := (-9223372036854775808 ≤ x.f0 ∧ x.f0 ≤ 9223372036854775807) ∧ (-9223372036854775808 ≤ x.f1 ∧ x.f1 ≤ 9223372036854775807) ∧ (-9223372036854775808 ≤ x.f2 ∧ x.f2 ≤ 9223372036854775807) ∧ (-9223372036854775808 ≤ x.f3 ∧ x.f3 ≤ 9223372036854775807)
/-- What is left to prove. -/
def Pure : Prop := ∀ (l0 : List (S194)), ((l0.length * 32 ≤ 140737488351232 ∧ l0.length ≤ 9223372036854775807 ∧ ∀ z, z ∈ l0 → ok194 z)) → ∃ k, laws_FnExactPlayWindow.f k l0 = some true
end Go.Proofs.Ythkmjfapljmmpaa.SFnExactPlayWindow
