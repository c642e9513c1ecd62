/- The pure statement of the law FnExactFieldOf: what its printed function answers, at every argument that can be read. -/
import Derived.Test.YtjmakjddhbdocaaDoorPFnExactFieldOfx4
namespace Go.Proofs.YtjmakjddhbdocaaDoor.SFnExactFieldOf
open Go.RowKit Go.Proofs.YtjmakjddhbdocaaDoor.PFnExactFieldOf Go.Proofs.YtjmakjddhbdocaaDoorW.PrintWords Go.Proofs.YtjmakjddhbdocaaDoorW.PrintLast
def ok35 (x : S35) : Prop := (x.f0.size ≤ 140737488351232) ∧ (x.f1.size ≤ 140737488351232)
/-- What is left to prove. -/
def Pure : Prop := ∀ (l0 : List (S35)) (a1 : ByteArray), ((l0.length * 32 ≤ 140737488351232 ∧ l0.length ≤ 9223372036854775807 ∧ ∀ z, z ∈ l0 → ok35 z)) → (a1.size ≤ 140737488351232) → ∃ k, laws_FnExactFieldOf.f k l0 a1 = some true
end Go.Proofs.YtjmakjddhbdocaaDoor.SFnExactFieldOf
