/- The pure statement of the law FnExactCarriedBytes: what its printed function answers, at every argument that can be read. -/
import Derived.Test.YtikomfdkdoognaaPFnExactCarriedBytesx2
namespace Go.Proofs.Ytikomfdkdoognaa.SFnExactCarriedBytes
open Go.RowKit Go.Proofs.Ytikomfdkdoognaa.PFnExactCarriedBytes Go.Proofs.YtikomfdkdoognaaW.PrintWords Go.Proofs.YtikomfdkdoognaaW.PrintLast

/-- What is left to prove. -/
def Pure : Prop := ∀ (a0_0 : Int) (a0_1 : Int) (a0_2 : ByteArray), (-9223372036854775808 ≤ a0_0 ∧ a0_0 ≤ 9223372036854775807) → (-9223372036854775808 ≤ a0_1 ∧ a0_1 ≤ 9223372036854775807) → (a0_2.size ≤ 140737488351232) → ∃ k, laws_FnExactCarriedBytes.f k a0_0 a0_1 a0_2 = some true
end Go.Proofs.Ytikomfdkdoognaa.SFnExactCarriedBytes
