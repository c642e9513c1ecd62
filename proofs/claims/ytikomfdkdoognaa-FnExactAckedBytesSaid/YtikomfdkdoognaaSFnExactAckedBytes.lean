/- The pure statement of the law FnExactAckedBytes: what its printed function answers, at every argument that can be read. -/
import Derived.Test.YtikomfdkdoognaaPFnExactAckedBytesx2
namespace Go.Proofs.Ytikomfdkdoognaa.SFnExactAckedBytes
open Go.RowKit Go.Proofs.Ytikomfdkdoognaa.PFnExactAckedBytes Go.Proofs.YtikomfdkdoognaaW.PrintWords Go.Proofs.YtikomfdkdoognaaW.PrintLast

/-- What is left to prove. -/
def Pure : Prop := ∀ (a0_0 : Int) (a0_1 : Int) (a0_2 : Int) (a0_3 : Int) (a1 : Int) (a2 : Int), (-9223372036854775808 ≤ a0_0 ∧ a0_0 ≤ 9223372036854775807) → (-9223372036854775808 ≤ a0_1 ∧ a0_1 ≤ 9223372036854775807) → (-9223372036854775808 ≤ a0_2 ∧ a0_2 ≤ 9223372036854775807) → (-9223372036854775808 ≤ a0_3 ∧ a0_3 ≤ 9223372036854775807) → (-9223372036854775808 ≤ a1 ∧ a1 ≤ 9223372036854775807) → (-9223372036854775808 ≤ a2 ∧ a2 ≤ 9223372036854775807) → ∃ k, laws_FnExactAckedBytes.f k a0_0 a0_1 a0_2 a0_3 a1 a2 = some true
end Go.Proofs.Ytikomfdkdoognaa.SFnExactAckedBytes
