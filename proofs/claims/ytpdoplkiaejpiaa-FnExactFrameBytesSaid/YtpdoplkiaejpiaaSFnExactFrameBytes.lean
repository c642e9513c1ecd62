/- The pure statement of the law FnExactFrameBytes: what its printed function answers, at every argument that can be read. -/
import Derived.Test.YtpdoplkiaejpiaaPFnExactFrameBytesx9
namespace Go.Proofs.Ytpdoplkiaejpiaa.SFnExactFrameBytes
open Go.RowKit Go.Proofs.Ytpdoplkiaejpiaa.PFnExactFrameBytes Go.Proofs.YtpdoplkiaejpiaaW.PrintWords Go.Proofs.YtpdoplkiaejpiaaW.PrintLast
def ok99 (x : S99) : Prop := (-9223372036854775808 ≤ x.f0 ∧ x.f0 ≤ 9223372036854775807) ∧ (-9223372036854775808 ≤ x.f1 ∧ x.f1 ≤ 9223372036854775807)
/-- What is left to prove. -/
def Pure : Prop := ∀ (a0_0 : Int) (a0_1 : Int) (a0_2 : Int) (a0_3 : Int) (a0_4 : Bool) (a0_5 : ByteArray) (l0_6 : List (S99)), (-9223372036854775808 ≤ a0_0 ∧ a0_0 ≤ 9223372036854775807) → (-9223372036854775808 ≤ a0_1 ∧ a0_1 ≤ 9223372036854775807) → (-9223372036854775808 ≤ a0_2 ∧ a0_2 ≤ 9223372036854775807) → (-9223372036854775808 ≤ a0_3 ∧ a0_3 ≤ 9223372036854775807) → (a0_5.size ≤ 140737488351232) → ((l0_6.length * 16 ≤ 140737488351232 ∧ l0_6.length ≤ 9223372036854775807 ∧ ∀ z, z ∈ l0_6 → ok99 z)) → ∃ k, laws_FnExactFrameBytes.f k a0_0 a0_1 a0_2 a0_3 a0_4 a0_5 l0_6 = some true
end Go.Proofs.Ytpdoplkiaejpiaa.SFnExactFrameBytes
