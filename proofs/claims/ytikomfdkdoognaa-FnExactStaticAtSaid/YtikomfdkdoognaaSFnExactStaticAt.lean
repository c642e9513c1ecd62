/- The pure statement of the law FnExactStaticAt: what its printed function answers, at every argument that can be read. -/
import Derived.Test.YtikomfdkdoognaaPFnExactStaticAtx3
namespace Go.Proofs.Ytikomfdkdoognaa.SFnExactStaticAt
open Go.RowKit Go.Proofs.Ytikomfdkdoognaa.PFnExactStaticAt Go.Proofs.YtikomfdkdoognaaW.PrintWords Go.Proofs.YtikomfdkdoognaaW.PrintLast

/-- What is left to prove. -/
def Pure : Prop := ∀ (a0_0 : ByteArray) (a0_1 : ByteArray), (a0_0.size ≤ 140737488351232) → (a0_1.size ≤ 140737488351232) → ∃ k, laws_FnExactStaticAt.f k a0_0 a0_1 = some true
end Go.Proofs.Ytikomfdkdoognaa.SFnExactStaticAt
