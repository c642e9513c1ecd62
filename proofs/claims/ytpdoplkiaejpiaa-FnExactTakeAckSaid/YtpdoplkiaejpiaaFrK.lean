/- Frames: two texts one behind the other, right numbers, the kind of a stream's frame. -/
import Derived.Test.YtpdoplkiaejpiaaQuietK
import Derived.Test.YtpdoplkiaejpiaaMapK
import Derived.Maps.OwnSet
import Derived.Deep.RegionHeld3
namespace Go.Proofs.Ytpdoplkiaejpiaa.FrK
open Go
def isVr (n : Int) : Bool := decide (0 ≤ n ∧ n ≤ 4611686018427387903)
/-- Two texts, one behind the other. -/
def hcat (a b : ByteArray) : Option ByteArray := if a.size + b.size ≤ 9223372036854775807 then some (a ++ b) else none
theorem hcat_some {a b r : ByteArray} (h : hcat a b = some r) : r = a ++ b ∧ (9223372036854775807 < a.size + b.size) = False := by
  unfold hcat at h
  split at h
  · exact ⟨(Option.some.inj h).symm, eq_false (Nat.not_lt.2 (by assumption))⟩
  · cases h
/-- The kind of a stream's frame. -/
def streamKind (fb : Int) (fin : Bool) : Int := if fb = 0 then (if fin = true then 11 else 10) else (if fin = true then 15 else 14)
end Go.Proofs.Ytpdoplkiaejpiaa.FrK
