/- The pure statement of the law FnExactTargetPath: what its printed function answers, at every argument that can be read. -/
import Derived.Test.YthkmjfapljmmpaaDoorPathK
namespace Go.Proofs.YthkmjfapljmmpaaDoor.SFnExactTargetPath
open Go.RowKit Go.Proofs.YthkmjfapljmmpaaDoor.PFnExactTargetPath Go.Proofs.YthkmjfapljmmpaaDoorW.PrintWords Go.Proofs.YthkmjfapljmmpaaDoorW.PrintLast

/-- What is left to prove. -/
def Pure : Prop := ∀ (a0 : ByteArray) (a1 : Int), (a0.size ≤ 140737488351232) → (-9223372036854775808 ≤ a1 ∧ a1 ≤ 9223372036854775807) → ∃ k, laws_FnExactTargetPath.Good k a0 a1
end Go.Proofs.YthkmjfapljmmpaaDoor.SFnExactTargetPath
