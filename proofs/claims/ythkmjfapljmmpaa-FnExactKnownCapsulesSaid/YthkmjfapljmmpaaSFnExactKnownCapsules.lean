/- The pure statement of the law FnExactKnownCapsules: what its printed function answers, at every argument that can be read. -/
import Derived.Test.YthkmjfapljmmpaaPFnExactKnownCapsulesx4
namespace Go.Proofs.Ythkmjfapljmmpaa.SFnExactKnownCapsules
open Go.RowKit Go.Proofs.Ythkmjfapljmmpaa.PFnExactKnownCapsules Go.Proofs.YthkmjfapljmmpaaW.PrintWords Go.Proofs.YthkmjfapljmmpaaW.PrintLast
def ok137 (x : S137) : Prop := (-9223372036854775808 ≤ x.f0 ∧ x.f0 ≤ 9223372036854775807) ∧ (x.f1.size ≤ 140737488351232)
/-- What is left to prove. -/
def Pure : Prop := ∀ (l0 : List (S137)), ((l0.length * 24 ≤ 140737488351232 ∧ l0.length ≤ 9223372036854775807 ∧ ∀ z, z ∈ l0 → ok137 z)) → ∃ k, laws_FnExactKnownCapsules.f k l0 = some true
end Go.Proofs.Ythkmjfapljmmpaa.SFnExactKnownCapsules
