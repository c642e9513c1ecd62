/- The pure statement of the law FnExactNextPiece: what its printed function answers, at every argument that can be read. -/
import Derived.Test.YthkmjfapljmmpaaPFnExactNextPiecex7
namespace Go.Proofs.Ythkmjfapljmmpaa.SFnExactNextPiece
open Go.RowKit Go.Proofs.Ythkmjfapljmmpaa.PFnExactNextPiece Go.Proofs.YthkmjfapljmmpaaW.PrintWords Go.Proofs.YthkmjfapljmmpaaW.PrintLast

/-- What is left to prove. -/
def Pure : Prop := ∀ (a0_0 : Int) (a0_1 : Int) (a0_2 : ByteArray) (a0_3 : Bool) (a1 : Int), (-9223372036854775808 ≤ a0_0 ∧ a0_0 ≤ 9223372036854775807) → (-9223372036854775808 ≤ a0_1 ∧ a0_1 ≤ 9223372036854775807) → (a0_2.size ≤ 140737488351232) → (-9223372036854775808 ≤ a1 ∧ a1 ≤ 9223372036854775807) → ∃ k, laws_FnExactNextPiece.f k a0_0 a0_1 a0_2 a0_3 a1 = some true
end Go.Proofs.Ythkmjfapljmmpaa.SFnExactNextPiece
