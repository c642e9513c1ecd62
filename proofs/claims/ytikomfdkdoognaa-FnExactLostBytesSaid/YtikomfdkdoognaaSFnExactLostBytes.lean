/- The pure statement of the law FnExactLostBytes: what its printed function answers, at every argument that can be read. -/
import Derived.Test.YtikomfdkdoognaaPFnExactLostBytesx2
namespace Go.Proofs.Ytikomfdkdoognaa.SFnExactLostBytes
open Go.RowKit Go.Proofs.Ytikomfdkdoognaa.PFnExactLostBytes Go.Proofs.YtikomfdkdoognaaW.PrintWords Go.Proofs.YtikomfdkdoognaaW.PrintLast

/-- What is left to prove. -/
def Pure : Prop := ∀ (a0_0 : Int) (a0_1 : Int) (a0_2 : Int) (a0_3 : Int) (a1 : Int) (a2 : Int) (a3 : Int), (-9223372036854775808 ≤ a0_0 ∧ a0_0 ≤ 9223372036854775807) → (-9223372036854775808 ≤ a0_1 ∧ a0_1 ≤ 9223372036854775807) → (-9223372036854775808 ≤ a0_2 ∧ a0_2 ≤ 9223372036854775807) → (-9223372036854775808 ≤ a0_3 ∧ a0_3 ≤ 9223372036854775807) → (-9223372036854775808 ≤ a1 ∧ a1 ≤ 9223372036854775807) → (-9223372036854775808 ≤ a2 ∧ a2 ≤ 9223372036854775807) → (-9223372036854775808 ≤ a3 ∧ a3 ≤ 9223372036854775807) → ∃ k, laws_FnExactLostBytes.f k a0_0 a0_1 a0_2 a0_3 a1 a2 a3 = some true
end Go.Proofs.Ytikomfdkdoognaa.SFnExactLostBytes
