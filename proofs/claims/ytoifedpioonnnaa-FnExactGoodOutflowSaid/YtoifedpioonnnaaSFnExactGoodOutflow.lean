/- The pure statement of the law FnExactGoodOutflow: what its printed function answers, at every argument that can be read. -/
import Derived.Test.YtoifedpioonnnaaPFnExactGoodOutflowx1
namespace Go.Proofs.Ytoifedpioonnnaa.SFnExactGoodOutflow
open Go.RowKit Go.Proofs.Ytoifedpioonnnaa.PFnExactGoodOutflow Go.Proofs.YtoifedpioonnnaaW.PrintWords Go.Proofs.YtoifedpioonnnaaW.PrintLast

/-- What is left to prove. -/
def Pure : Prop := ∀ (a0_0 : Int) (a0_1 : Int) (a0_2 : ByteArray) (a0_3 : Bool), (-9223372036854775808 ≤ a0_0 ∧ a0_0 ≤ 9223372036854775807) → (-9223372036854775808 ≤ a0_1 ∧ a0_1 ≤ 9223372036854775807) → (a0_2.size ≤ 140737488351232) → laws_FnExactGoodOutflow.f a0_0 a0_1 a0_2 a0_3 = some true
end Go.Proofs.Ytoifedpioonnnaa.SFnExactGoodOutflow
