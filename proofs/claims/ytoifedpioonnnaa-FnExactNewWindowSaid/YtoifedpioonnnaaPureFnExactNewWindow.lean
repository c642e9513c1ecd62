/- The pure statement of the law FnExactNewWindow: the program's function and the reference answer alike. -/
import Derived.Test.YtoifedpioonnnaaPFnExactNewWindowx1
namespace Go.Proofs.Ytoifedpioonnnaa.Pure
open Go.RowKit Go.Proofs.Ytoifedpioonnnaa.PFnExactNewWindow Go.Proofs.YtoifedpioonnnaaW.PrintWords Go.Proofs.YtoifedpioonnnaaW.PrintLast

theorem FnExactNewWindow : laws_FnExactNewWindow.Pure := by
  unfold laws_FnExactNewWindow.Pure
  rfl

end Go.Proofs.Ytoifedpioonnnaa.Pure
