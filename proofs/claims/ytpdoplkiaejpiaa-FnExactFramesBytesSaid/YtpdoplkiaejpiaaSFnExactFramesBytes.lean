/- The pure statement of the law FnExactFramesBytes: what its printed function answers, at every argument that can be read. -/
import Derived.Test.YtpdoplkiaejpiaaPFnExactFramesBytesx9
namespace Go.Proofs.Ytpdoplkiaejpiaa.SFnExactFramesBytes
open Go.RowKit Go.Proofs.Ytpdoplkiaejpiaa.PFnExactFramesBytes Go.Proofs.YtpdoplkiaejpiaaW.PrintWords Go.Proofs.YtpdoplkiaejpiaaW.PrintLast
def ok99 (x : S99) : Prop := (-9223372036854775808 ≤ x.f0 ∧ x.f0 ≤ 9223372036854775807) ∧ (-9223372036854775808 ≤ x.f1 ∧ x.f1 ≤ 9223372036854775807)
def ok24 (x : S24) : Prop := (-9223372036854775808 ≤ x.f0 ∧ x.f0 ≤ 9223372036854775807) ∧ (-9223372036854775808 ≤ x.f1 ∧ x.f1 ≤ 9223372036854775807) ∧ (-9223372036854775808 ≤ x.f2 ∧ x.f2 ≤ 9223372036854775807) ∧ (-9223372036854775808 ≤ x.f3 ∧ x.f3 ≤ 9223372036854775807) ∧ (True) ∧ (x.f5.size ≤ 140737488351232) ∧ ((x.f6.length * 16 ≤ 140737488351232 ∧ x.f6.length ≤ 9223372036854775807 ∧ ∀ z, z ∈ x.f6 → ok99 z))
/-- What is left to prove. -/
def Pure : Prop := ∀ (l0 : List (S24)), ((l0.length * 80 ≤ 140737488351232 ∧ l0.length ≤ 9223372036854775807 ∧ ∀ z, z ∈ l0 → ok24 z)) → ∃ k, laws_FnExactFramesBytes.f k l0 = some true
end Go.Proofs.Ytpdoplkiaejpiaa.SFnExactFramesBytes
