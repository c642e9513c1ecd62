/- The pure statement of the law FnExactHeaderBytes: what its printed function answers, at every argument that can be read. -/
import Derived.Test.YthkmjfapljmmpaaPFnExactHeaderBytesx9
namespace Go.Proofs.Ythkmjfapljmmpaa.SFnExactHeaderBytes
open Go.RowKit Go.Proofs.Ythkmjfapljmmpaa.PFnExactHeaderBytes Go.Proofs.YthkmjfapljmmpaaW.PrintWords Go.Proofs.YthkmjfapljmmpaaW.PrintLast

/-- What is left to prove. -/
def Pure : Prop := ∀ (a0_0 : Int) (a0_1 : Int) (a0_2 : Int) (a0_3 : ByteArray) (a0_4 : ByteArray) (a0_5 : ByteArray) (a0_6 : ByteArray) (l0_7 : List Int), (-9223372036854775808 ≤ a0_0 ∧ a0_0 ≤ 9223372036854775807) → (-9223372036854775808 ≤ a0_1 ∧ a0_1 ≤ 9223372036854775807) → (-9223372036854775808 ≤ a0_2 ∧ a0_2 ≤ 9223372036854775807) → (a0_3.size ≤ 140737488351232) → (a0_4.size ≤ 140737488351232) → (a0_5.size ≤ 140737488351232) → (a0_6.size ≤ 140737488351232) → ((l0_7.length * 8 ≤ 140737488351232 ∧ l0_7.length ≤ 9223372036854775807 ∧ ∀ z, z ∈ l0_7 → -9223372036854775808 ≤ z ∧ z ≤ 9223372036854775807)) → ∃ k, laws_FnExactHeaderBytes.f k a0_0 a0_1 a0_2 a0_3 a0_4 a0_5 a0_6 l0_7 = some true
end Go.Proofs.Ythkmjfapljmmpaa.SFnExactHeaderBytes
