/- The pure statement of the law FnExactPutNumber: what its printed function answers, at every argument that can be read. -/
import Derived.Test.YtjmakjddhbdocaaPFnExactPutNumberx6
namespace Go.Proofs.Ytjmakjddhbdocaa.SFnExactPutNumber
open Go.RowKit Go.Proofs.Ytjmakjddhbdocaa.PFnExactPutNumber Go.Proofs.YtjmakjddhbdocaaW.PrintWords Go.Proofs.YtjmakjddhbdocaaW.PrintLast
def ok112 (x : S112) : Prop := (-9223372036854775808 ≤ x.f0 ∧ x.f0 ≤ 9223372036854775807) ∧ (-9223372036854775808 ≤ x.f1 ∧ x.f1 ≤ 9223372036854775807)
/-- What is left to prove. -/
def Pure : Prop := ∀ (l0 : List (S112)) (a1 : Int), ((l0.length * 16 ≤ 140737488351232 ∧ l0.length ≤ 9223372036854775807 ∧ ∀ z, z ∈ l0 → ok112 z)) → (-9223372036854775808 ≤ a1 ∧ a1 ≤ 9223372036854775807) → ∃ k, laws_FnExactPutNumber.f k l0 a1 = some true
end Go.Proofs.Ytjmakjddhbdocaa.SFnExactPutNumber
