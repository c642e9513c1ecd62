/- The pure statement of the law FnExactParseTarget: what its printed function answers, at every argument that can be read. -/
import Derived.Test.YtilkginahmfagaaDoorParseK
namespace Go.Proofs.YtilkginahmfagaaDoor.SFnExactParseTarget
open Go.RowKit Go.Proofs.YtilkginahmfagaaDoor.PFnExactParseTarget Go.Proofs.YtilkginahmfagaaDoorW.PrintWords Go.Proofs.YtilkginahmfagaaDoorW.PrintLast

/-- What is left to prove. -/
def Pure : Prop := ∀ (a0 : ByteArray), (a0.size ≤ 140737488351232) → ∃ k, laws_FnExactParseTarget.Good k a0
end Go.Proofs.YtilkginahmfagaaDoor.SFnExactParseTarget
