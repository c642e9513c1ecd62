/- The pure statement of the law FnExactGoodCarried: what its printed function answers, at every argument that can be read. -/
import Derived.Test.YtoifedpioonnnaaPFnExactGoodCarriedx1
namespace Go.Proofs.Ytoifedpioonnnaa.SFnExactGoodCarried
open Go.RowKit Go.Proofs.Ytoifedpioonnnaa.PFnExactGoodCarried Go.Proofs.YtoifedpioonnnaaW.PrintWords Go.Proofs.YtoifedpioonnnaaW.PrintLast

/-- What is left to prove. -/
def Pure : Prop := ∀ (a0_0 : Int) (a0_1 : Int) (a0_2 : ByteArray), (-9223372036854775808 ≤ a0_0 ∧ a0_0 ≤ 9223372036854775807) → (-9223372036854775808 ≤ a0_1 ∧ a0_1 ≤ 9223372036854775807) → (a0_2.size ≤ 140737488351232) → laws_FnExactGoodCarried.f a0_0 a0_1 a0_2 = some true
end Go.Proofs.Ytoifedpioonnnaa.SFnExactGoodCarried
