/- The pure statement of the law FnExactStalledWindow: what its printed function answers, at every argument that can be read. -/
import Derived.Test.YtoifedpioonnnaaPFnExactStalledWindowx1
namespace Go.Proofs.Ytoifedpioonnnaa.SFnExactStalledWindow
open Go.RowKit Go.Proofs.Ytoifedpioonnnaa.PFnExactStalledWindow Go.Proofs.YtoifedpioonnnaaW.PrintWords Go.Proofs.YtoifedpioonnnaaW.PrintLast

/-- What is left to prove. -/
def Pure : Prop := ∀ (a0_0 : Int) (a0_1 : Int) (a0_2 : Int) (a0_3 : Int), (-9223372036854775808 ≤ a0_0 ∧ a0_0 ≤ 9223372036854775807) → (-9223372036854775808 ≤ a0_1 ∧ a0_1 ≤ 9223372036854775807) → (-9223372036854775808 ≤ a0_2 ∧ a0_2 ≤ 9223372036854775807) → (-9223372036854775808 ≤ a0_3 ∧ a0_3 ≤ 9223372036854775807) → laws_FnExactStalledWindow.f a0_0 a0_1 a0_2 a0_3 = some true
end Go.Proofs.Ytoifedpioonnnaa.SFnExactStalledWindow
