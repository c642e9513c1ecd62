/- The pure statement of the law FnExactAgeOf: what its printed function answers, at every argument that can be read. -/
import Derived.Test.YtoifedpioonnnaaPFnExactAgeOfx1
namespace Go.Proofs.Ytoifedpioonnnaa.SFnExactAgeOf
open Go.RowKit Go.Proofs.Ytoifedpioonnnaa.PFnExactAgeOf Go.Proofs.YtoifedpioonnnaaW.PrintWords Go.Proofs.YtoifedpioonnnaaW.PrintLast

/-- What is left to prove. -/
def Pure : Prop := ∀ (a0_0 : ByteArray) (a0_1 : Int) (a0_2 : Bool) (a1 : Int), (a0_0.size ≤ 140737488351232) → (-9223372036854775808 ≤ a0_1 ∧ a0_1 ≤ 9223372036854775807) → (-9223372036854775808 ≤ a1 ∧ a1 ≤ 9223372036854775807) → laws_FnExactAgeOf.f a0_0 a0_1 a0_2 a1 = some true
end Go.Proofs.Ytoifedpioonnnaa.SFnExactAgeOf
