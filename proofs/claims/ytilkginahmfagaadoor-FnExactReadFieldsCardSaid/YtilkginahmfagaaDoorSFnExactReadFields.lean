/- The pure statement of the law FnExactReadFields: what its printed function answers, at every argument that can be read. -/
import Derived.Test.YtilkginahmfagaaDoorPFnExactReadFieldsx13
namespace Go.Proofs.YtilkginahmfagaaDoor.SFnExactReadFields
open Go.RowKit Go.Proofs.YtilkginahmfagaaDoor.PFnExactReadFields Go.Proofs.YtilkginahmfagaaDoorW.PrintWords Go.Proofs.YtilkginahmfagaaDoorW.PrintLast

/-- What is left to prove. -/
def Pure : Prop := ∀ (a0 : ByteArray), (a0.size ≤ 140737488351232) → ∃ k, laws_FnExactReadFields.f k a0 = some true
end Go.Proofs.YtilkginahmfagaaDoor.SFnExactReadFields
