/- The pure statement of the law FnExactJoinRanges: what its printed function answers, at every argument that can be read. -/
import Derived.Test.YtjmakjddhbdocaaPFnExactJoinRangesx6
namespace Go.Proofs.Ytjmakjddhbdocaa.SFnExactJoinRanges
open Go.RowKit Go.Proofs.Ytjmakjddhbdocaa.PFnExactJoinRanges Go.Proofs.YtjmakjddhbdocaaW.PrintWords Go.Proofs.YtjmakjddhbdocaaW.PrintLast
def ok112 (x : S112) : Prop := (-9223372036854775808 ≤ x.f0 ∧ x.f0 ≤ 9223372036854775807) ∧ (-9223372036854775808 ≤ x.f1 ∧ x.f1 ≤ 9223372036854775807)
/-- What is left to prove. -/
def Pure : Prop := ∀ (l0 : List (S112)) (l1 : List (S112)), ((l0.length * 16 ≤ 140737488351232 ∧ l0.length ≤ 9223372036854775807 ∧ ∀ z, z ∈ l0 → ok112 z)) → ((l1.length * 16 ≤ 140737488351232 ∧ l1.length ≤ 9223372036854775807 ∧ ∀ z, z ∈ l1 → ok112 z)) → ∃ k, laws_FnExactJoinRanges.f k l0 l1 = some true
end Go.Proofs.Ytjmakjddhbdocaa.SFnExactJoinRanges
