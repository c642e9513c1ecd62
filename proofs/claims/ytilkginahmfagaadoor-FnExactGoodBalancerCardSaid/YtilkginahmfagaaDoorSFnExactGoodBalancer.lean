/- The pure statement of the law FnExactGoodBalancer: what its printed function answers, at every argument that can be read. -/
import Derived.Test.YtilkginahmfagaaDoorPFnExactGoodBalancerx8
namespace Go.Proofs.YtilkginahmfagaaDoor.SFnExactGoodBalancer
open Go.RowKit Go.Proofs.YtilkginahmfagaaDoor.PFnExactGoodBalancer Go.Proofs.YtilkginahmfagaaDoorW.PrintWords Go.Proofs.YtilkginahmfagaaDoorW.PrintLast
def ok159 (x : S159) : Prop := (x.f0.size ≤ 140737488351232) ∧ (x.f1.size ≤ 140737488351232)
def ok117 (x : S117) : Prop := (-9223372036854775808 ≤ x.f0 ∧ x.f0 ≤ 9223372036854775807) ∧ (-9223372036854775808 ≤ x.f1 ∧ x.f1 ≤ 9223372036854775807) ∧ (-9223372036854775808 ≤ x.f2 ∧ x.f2 ≤ 9223372036854775807) ∧ (x.f3.size ≤ 140737488351232) ∧ (True)
def ok120 (x : S120) : Prop := (ok117 x.f0) ∧ ((x.f1.length * 32 ≤ 140737488351232 ∧ x.f1.length ≤ 9223372036854775807 ∧ ∀ z, z ∈ x.f1 → ok159 z)) ∧ (-9223372036854775808 ≤ x.f2 ∧ x.f2 ≤ 9223372036854775807)
/-- What is left to prove. -/
def Pure : Prop := ∀ (l0_0 : List (S120)) (l0_1 : List ByteArray) (a0_2 : Int) (a0_3 : Bool) (l0_4 : List ByteArray) (a0_5 : Int) (a0_6 : Int), ((l0_0.length * 80 ≤ 140737488351232 ∧ l0_0.length ≤ 9223372036854775807 ∧ ∀ z, z ∈ l0_0 → ok120 z)) → ((l0_1.length * 16 ≤ 140737488351232 ∧ l0_1.length ≤ 9223372036854775807 ∧ ∀ z, z ∈ l0_1 → z.size ≤ 140737488351232)) → (-9223372036854775808 ≤ a0_2 ∧ a0_2 ≤ 9223372036854775807) → ((l0_4.length * 16 ≤ 140737488351232 ∧ l0_4.length ≤ 9223372036854775807 ∧ ∀ z, z ∈ l0_4 → z.size ≤ 140737488351232)) → (-9223372036854775808 ≤ a0_5 ∧ a0_5 ≤ 9223372036854775807) → (-9223372036854775808 ≤ a0_6 ∧ a0_6 ≤ 9223372036854775807) → ∃ k, laws_FnExactGoodBalancer.f k l0_0 l0_1 a0_2 a0_3 l0_4 a0_5 a0_6 = some true
end Go.Proofs.YtilkginahmfagaaDoor.SFnExactGoodBalancer
