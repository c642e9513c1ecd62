/- The pure statement of the law FnExactReadSome: what its printed function answers, at every argument that can be read. -/
import Derived.Test.YthkmjfapljmmpaaPFnExactReadSomex12
namespace Go.Proofs.Ythkmjfapljmmpaa.SFnExactReadSome
open Go.RowKit Go.Proofs.Ythkmjfapljmmpaa.PFnExactReadSome Go.Proofs.YthkmjfapljmmpaaW.PrintWords Go.Proofs.YthkmjfapljmmpaaW.PrintLast
def ok218 (x : S218) : Prop := (-9223372036854775808 ≤ x.f0 ∧ x.f0 ≤ 9223372036854775807) ∧ (x.f1.size ≤ 140737488351232)
/-- What is left to prove. -/
def Pure : Prop := ∀ (a0_0 : Int) (a0_1 : Int) (a0_2 : Int) (l0_3 : List (S218)) (a1 : Int), (-9223372036854775808 ≤ a0_0 ∧ a0_0 ≤ 9223372036854775807) → (-9223372036854775808 ≤ a0_1 ∧ a0_1 ≤ 9223372036854775807) → (-9223372036854775808 ≤ a0_2 ∧ a0_2 ≤ 9223372036854775807) → ((l0_3.length * 24 ≤ 140737488351232 ∧ l0_3.length ≤ 9223372036854775807 ∧ ∀ z, z ∈ l0_3 → ok218 z)) → (-9223372036854775808 ≤ a1 ∧ a1 ≤ 9223372036854775807) → ∃ k, laws_FnExactReadSome.f k a0_0 a0_1 a0_2 l0_3 a1 = some true
end Go.Proofs.Ythkmjfapljmmpaa.SFnExactReadSome
