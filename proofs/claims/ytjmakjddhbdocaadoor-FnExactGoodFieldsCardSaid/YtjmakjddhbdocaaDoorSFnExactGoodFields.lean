/- The pure statement of the law FnExactGoodFields: what its printed function answers, at every argument that can be read. -/
import Derived.Test.YtjmakjddhbdocaaDoorPFnExactGoodFieldsx4
namespace Go.Proofs.YtjmakjddhbdocaaDoor.SFnExactGoodFields
open Go.RowKit Go.Proofs.YtjmakjddhbdocaaDoor.PFnExactGoodFields Go.Proofs.YtjmakjddhbdocaaDoorW.PrintWords Go.Proofs.YtjmakjddhbdocaaDoorW.PrintLast
def ok35 (x : S35) : Prop := (x.f0.size ≤ 140737488351232) ∧ (x.f1.size ≤ 140737488351232)
/-- What is left to prove. -/
def Pure : Prop := ∀ (l0 : List (S35)), ((l0.length * 32 ≤ 140737488351232 ∧ l0.length ≤ 9223372036854775807 ∧ ∀ z, z ∈ l0 → ok35 z)) → ∃ k, laws_FnExactGoodFields.f k l0 = some true
end Go.Proofs.YtjmakjddhbdocaaDoor.SFnExactGoodFields
