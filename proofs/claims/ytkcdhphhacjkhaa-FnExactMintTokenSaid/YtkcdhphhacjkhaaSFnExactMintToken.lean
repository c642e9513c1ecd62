/- The pure statement of the law FnExactMintToken: what its printed function answers, at every argument that can be read. -/
import Derived.Test.YtkcdhphhacjkhaaPFnExactMintTokenx2
namespace Go.Proofs.Ytkcdhphhacjkhaa.SFnExactMintToken
open Go.RowKit Go.Proofs.Ytkcdhphhacjkhaa.PFnExactMintToken Go.Proofs.YtkcdhphhacjkhaaW.PrintWords Go.Proofs.YtkcdhphhacjkhaaW.PrintLast

/-- What is left to prove. -/
def Pure : Prop := ∀ (a0 : ByteArray) (a1 : ByteArray) (a2 : ByteArray) (a3_0 : ByteArray) (a3_1 : Int) (a3_2 : Bool), (a0.size ≤ 140737488351232) → (a1.size ≤ 140737488351232) → (a2.size ≤ 140737488351232) → (a3_0.size ≤ 140737488351232) → (-9223372036854775808 ≤ a3_1 ∧ a3_1 ≤ 9223372036854775807) → ∃ k, laws_FnExactMintToken.f k a0 a1 a2 a3_0 a3_1 a3_2 = some true
end Go.Proofs.Ytkcdhphhacjkhaa.SFnExactMintToken
