/-
  No cell of these rows narrows 'for every input' (looked for: loops, veiled, ifaces, maps, wideKeys, modest, calm, conditions, laid).
  DERIVED. THE GIVEN ROWS OF THIS SEAT. 12 by the template 'for every input the law returns true; each argument reads behind the call as it read before'; 0 by the template 'total and deterministic' (their statements: YtoifedpioonnnaaTotals.lean).
  GIVEN WITH THE SEED: the statements are not yours to turn. If you find one false, say at which input.
  Laid BY PROGRAM, IN A SANDBOX (cutbox-rows.mjs): the forced cells as the released guide's own fill.sh prints them over the translation d3f6a39322841755… (all of the seat's roots in one cut). By AI agents, Wed Nov 11 2026. No macro, syntax, notation, axiom, sorry.
-/
import Derived.Test.YtoifedpioonnnaaChecked
import GoSem.Claim
import GoSem.ClaimJoined
import GoSem.ClaimMapViews
import Derived.JoinedTies
import Derived.KernelRfl
namespace Go.Proofs.Ytoifedpioonnnaa
/- THE CELL 'sum', in the pinned program and in every row, IS THE sha256 OF THE DUMP (.gsa) THAT YtoifedpioonnnaaProg.lean LOADS. Nothing in Lean hashes anything: it is a label: what it is worth is what the hold of that sum in a sandbox is worth. -/
noncomputable def Try.pinned : Pinned := { name := "ytoifedpioonnnaa", sum := "d3f6a39322841755f6f7d416ca98d268f4b1d0414a8faaf729aac37b9470bb77", checked := Try.checked }
namespace Rows
def none {H : Type} : Left H := { results := [], args := [] }

/-- 'laws.FnExactGoodWindow': WHATEVER THE INPUT: true; the input reads as it did. -/
def fnExactGoodWindowSpec : ChangeSpec := { name := "fnExactGoodWindow", fn := fun _ => fun
  | [d] => { results := [.lit (.bool true)], args := [d] }
  | _ => none }
def fnExactGoodWindowRow : OpenClaim := { program := "ytoifedpioonnnaa", sum := "d3f6a39322841755f6f7d416ca98d268f4b1d0414a8faaf729aac37b9470bb77", func := "loop.example/g00206/laws.FnExactGoodWindow", spec := "fnExactGoodWindow", apart := false }
def FnExactGoodWindowSaid : Prop := fnExactGoodWindowRow.holds Try.pinned (OpenSpec.ofChange fnExactGoodWindowSpec)

/-- ITS FALSE NEIGHBOUR: 'it returns false'. Refute it at one input. -/
def fnExactGoodWindowWrong : ChangeSpec := { name := "fnExactGoodWindow", fn := fun _ => fun
  | [d] => { results := [.lit (.bool false)], args := [d] }
  | _ => none }
def FnExactGoodWindowWrongFalsely : Prop := fnExactGoodWindowRow.holds Try.pinned (OpenSpec.ofChange fnExactGoodWindowWrong)

/-- 'laws.FnExactNewWindow': WHATEVER THE INPUT: true; the input reads as it did. -/
def fnExactNewWindowSpec : ChangeSpec := { name := "fnExactNewWindow", fn := fun _ => fun
  | [] => { results := [.lit (.bool true)], args := [] }
  | _ => none }
def fnExactNewWindowRow : OpenClaim := { program := "ytoifedpioonnnaa", sum := "d3f6a39322841755f6f7d416ca98d268f4b1d0414a8faaf729aac37b9470bb77", func := "loop.example/g00206/laws.FnExactNewWindow", spec := "fnExactNewWindow", apart := false }
def FnExactNewWindowSaid : Prop := fnExactNewWindowRow.holds Try.pinned (OpenSpec.ofChange fnExactNewWindowSpec)

/-- ITS FALSE NEIGHBOUR: 'it returns false'. Refute it at one input. -/
def fnExactNewWindowWrong : ChangeSpec := { name := "fnExactNewWindow", fn := fun _ => fun
  | [] => { results := [.lit (.bool false)], args := [] }
  | _ => none }
def FnExactNewWindowWrongFalsely : Prop := fnExactNewWindowRow.holds Try.pinned (OpenSpec.ofChange fnExactNewWindowWrong)

/-- 'laws.FnExactGoodOutflow': WHATEVER THE INPUT: true; the input reads as it did. -/
def fnExactGoodOutflowSpec : ChangeSpec := { name := "fnExactGoodOutflow", fn := fun _ => fun
  | [d] => { results := [.lit (.bool true)], args := [d] }
  | _ => none }
def fnExactGoodOutflowRow : OpenClaim := { program := "ytoifedpioonnnaa", sum := "d3f6a39322841755f6f7d416ca98d268f4b1d0414a8faaf729aac37b9470bb77", func := "loop.example/g00206/laws.FnExactGoodOutflow", spec := "fnExactGoodOutflow", apart := false }
def FnExactGoodOutflowSaid : Prop := fnExactGoodOutflowRow.holds Try.pinned (OpenSpec.ofChange fnExactGoodOutflowSpec)

/-- ITS FALSE NEIGHBOUR: 'it returns false'. Refute it at one input. -/
def fnExactGoodOutflowWrong : ChangeSpec := { name := "fnExactGoodOutflow", fn := fun _ => fun
  | [d] => { results := [.lit (.bool false)], args := [d] }
  | _ => none }
def FnExactGoodOutflowWrongFalsely : Prop := fnExactGoodOutflowRow.holds Try.pinned (OpenSpec.ofChange fnExactGoodOutflowWrong)

/-- 'laws.FnExactGoodCarried': WHATEVER THE INPUT: true; the input reads as it did. -/
def fnExactGoodCarriedSpec : ChangeSpec := { name := "fnExactGoodCarried", fn := fun _ => fun
  | [d] => { results := [.lit (.bool true)], args := [d] }
  | _ => none }
def fnExactGoodCarriedRow : OpenClaim := { program := "ytoifedpioonnnaa", sum := "d3f6a39322841755f6f7d416ca98d268f4b1d0414a8faaf729aac37b9470bb77", func := "loop.example/g00206/laws.FnExactGoodCarried", spec := "fnExactGoodCarried", apart := false }
def FnExactGoodCarriedSaid : Prop := fnExactGoodCarriedRow.holds Try.pinned (OpenSpec.ofChange fnExactGoodCarriedSpec)

/-- ITS FALSE NEIGHBOUR: 'it returns false'. Refute it at one input. -/
def fnExactGoodCarriedWrong : ChangeSpec := { name := "fnExactGoodCarried", fn := fun _ => fun
  | [d] => { results := [.lit (.bool false)], args := [d] }
  | _ => none }
def FnExactGoodCarriedWrongFalsely : Prop := fnExactGoodCarriedRow.holds Try.pinned (OpenSpec.ofChange fnExactGoodCarriedWrong)

/-- 'laws.FnExactKeyOf': WHATEVER THE INPUT: true; the input reads as it did. -/
def fnExactKeyOfSpec : ChangeSpec := { name := "fnExactKeyOf", fn := fun _ => fun
  | [d1, d2, d3] => { results := [.lit (.bool true)], args := [d1, d2, d3] }
  | _ => none }
def fnExactKeyOfRow : OpenClaim := { program := "ytoifedpioonnnaa", sum := "d3f6a39322841755f6f7d416ca98d268f4b1d0414a8faaf729aac37b9470bb77", func := "loop.example/g00206/laws.FnExactKeyOf", spec := "fnExactKeyOf", apart := false }
def FnExactKeyOfSaid : Prop := fnExactKeyOfRow.holds Try.pinned (OpenSpec.ofChange fnExactKeyOfSpec)

/-- ITS FALSE NEIGHBOUR: 'it returns false'. Refute it at one input. -/
def fnExactKeyOfWrong : ChangeSpec := { name := "fnExactKeyOf", fn := fun _ => fun
  | [d1, d2, d3] => { results := [.lit (.bool false)], args := [d1, d2, d3] }
  | _ => none }
def FnExactKeyOfWrongFalsely : Prop := fnExactKeyOfRow.holds Try.pinned (OpenSpec.ofChange fnExactKeyOfWrong)

/-- 'laws.FnExactRoomIn': WHATEVER THE INPUT: true; the input reads as it did. -/
def fnExactRoomInSpec : ChangeSpec := { name := "fnExactRoomIn", fn := fun _ => fun
  | [d] => { results := [.lit (.bool true)], args := [d] }
  | _ => none }
def fnExactRoomInRow : OpenClaim := { program := "ytoifedpioonnnaa", sum := "d3f6a39322841755f6f7d416ca98d268f4b1d0414a8faaf729aac37b9470bb77", func := "loop.example/g00206/laws.FnExactRoomIn", spec := "fnExactRoomIn", apart := false }
def FnExactRoomInSaid : Prop := fnExactRoomInRow.holds Try.pinned (OpenSpec.ofChange fnExactRoomInSpec)

/-- ITS FALSE NEIGHBOUR: 'it returns false'. Refute it at one input. -/
def fnExactRoomInWrong : ChangeSpec := { name := "fnExactRoomIn", fn := fun _ => fun
  | [d] => { results := [.lit (.bool false)], args := [d] }
  | _ => none }
def FnExactRoomInWrongFalsely : Prop := fnExactRoomInRow.holds Try.pinned (OpenSpec.ofChange fnExactRoomInWrong)

/-- 'laws.FnExactAgeOf': WHATEVER THE INPUT: true; the input reads as it did. -/
def fnExactAgeOfSpec : ChangeSpec := { name := "fnExactAgeOf", fn := fun _ => fun
  | [d1, d2] => { results := [.lit (.bool true)], args := [d1, d2] }
  | _ => none }
def fnExactAgeOfRow : OpenClaim := { program := "ytoifedpioonnnaa", sum := "d3f6a39322841755f6f7d416ca98d268f4b1d0414a8faaf729aac37b9470bb77", func := "loop.example/g00206/laws.FnExactAgeOf", spec := "fnExactAgeOf", apart := false }
def FnExactAgeOfSaid : Prop := fnExactAgeOfRow.holds Try.pinned (OpenSpec.ofChange fnExactAgeOfSpec)

/-- ITS FALSE NEIGHBOUR: 'it returns false'. Refute it at one input. -/
def fnExactAgeOfWrong : ChangeSpec := { name := "fnExactAgeOf", fn := fun _ => fun
  | [d1, d2] => { results := [.lit (.bool false)], args := [d1, d2] }
  | _ => none }
def FnExactAgeOfWrongFalsely : Prop := fnExactAgeOfRow.holds Try.pinned (OpenSpec.ofChange fnExactAgeOfWrong)

/-- 'laws.FnExactStaticField': WHATEVER THE INPUT: true; the input reads as it did. -/
def fnExactStaticFieldSpec : ChangeSpec := { name := "fnExactStaticField", fn := fun _ => fun
  | [d] => { results := [.lit (.bool true)], args := [d] }
  | _ => none }
def fnExactStaticFieldRow : OpenClaim := { program := "ytoifedpioonnnaa", sum := "d3f6a39322841755f6f7d416ca98d268f4b1d0414a8faaf729aac37b9470bb77", func := "loop.example/g00206/laws.FnExactStaticField", spec := "fnExactStaticField", apart := false }
def FnExactStaticFieldSaid : Prop := fnExactStaticFieldRow.holds Try.pinned (OpenSpec.ofChange fnExactStaticFieldSpec)

/-- ITS FALSE NEIGHBOUR: 'it returns false'. Refute it at one input. -/
def fnExactStaticFieldWrong : ChangeSpec := { name := "fnExactStaticField", fn := fun _ => fun
  | [d] => { results := [.lit (.bool false)], args := [d] }
  | _ => none }
def FnExactStaticFieldWrongFalsely : Prop := fnExactStaticFieldRow.holds Try.pinned (OpenSpec.ofChange fnExactStaticFieldWrong)

/-- 'laws.FnExactTakePrefix': WHATEVER THE INPUT: true; the input reads as it did. -/
def fnExactTakePrefixSpec : ChangeSpec := { name := "fnExactTakePrefix", fn := fun _ => fun
  | [d1, d2] => { results := [.lit (.bool true)], args := [d1, d2] }
  | _ => none }
def fnExactTakePrefixRow : OpenClaim := { program := "ytoifedpioonnnaa", sum := "d3f6a39322841755f6f7d416ca98d268f4b1d0414a8faaf729aac37b9470bb77", func := "loop.example/g00206/laws.FnExactTakePrefix", spec := "fnExactTakePrefix", apart := false }
def FnExactTakePrefixSaid : Prop := fnExactTakePrefixRow.holds Try.pinned (OpenSpec.ofChange fnExactTakePrefixSpec)

/-- ITS FALSE NEIGHBOUR: 'it returns false'. Refute it at one input. -/
def fnExactTakePrefixWrong : ChangeSpec := { name := "fnExactTakePrefix", fn := fun _ => fun
  | [d1, d2] => { results := [.lit (.bool false)], args := [d1, d2] }
  | _ => none }
def FnExactTakePrefixWrongFalsely : Prop := fnExactTakePrefixRow.holds Try.pinned (OpenSpec.ofChange fnExactTakePrefixWrong)

/-- 'laws.FnExactStalledWindow': WHATEVER THE INPUT: true; the input reads as it did. -/
def fnExactStalledWindowSpec : ChangeSpec := { name := "fnExactStalledWindow", fn := fun _ => fun
  | [d] => { results := [.lit (.bool true)], args := [d] }
  | _ => none }
def fnExactStalledWindowRow : OpenClaim := { program := "ytoifedpioonnnaa", sum := "d3f6a39322841755f6f7d416ca98d268f4b1d0414a8faaf729aac37b9470bb77", func := "loop.example/g00206/laws.FnExactStalledWindow", spec := "fnExactStalledWindow", apart := false }
def FnExactStalledWindowSaid : Prop := fnExactStalledWindowRow.holds Try.pinned (OpenSpec.ofChange fnExactStalledWindowSpec)

/-- ITS FALSE NEIGHBOUR: 'it returns false'. Refute it at one input. -/
def fnExactStalledWindowWrong : ChangeSpec := { name := "fnExactStalledWindow", fn := fun _ => fun
  | [d] => { results := [.lit (.bool false)], args := [d] }
  | _ => none }
def FnExactStalledWindowWrongFalsely : Prop := fnExactStalledWindowRow.holds Try.pinned (OpenSpec.ofChange fnExactStalledWindowWrong)

/-- 'laws.FnExactSentBytes': WHATEVER THE INPUT: true; the input reads as it did. -/
def fnExactSentBytesSpec : ChangeSpec := { name := "fnExactSentBytes", fn := fun _ => fun
  | [d1, d2] => { results := [.lit (.bool true)], args := [d1, d2] }
  | _ => none }
def fnExactSentBytesRow : OpenClaim := { program := "ytoifedpioonnnaa", sum := "d3f6a39322841755f6f7d416ca98d268f4b1d0414a8faaf729aac37b9470bb77", func := "loop.example/g00206/laws.FnExactSentBytes", spec := "fnExactSentBytes", apart := false }
def FnExactSentBytesSaid : Prop := fnExactSentBytesRow.holds Try.pinned (OpenSpec.ofChange fnExactSentBytesSpec)

/-- ITS FALSE NEIGHBOUR: 'it returns false'. Refute it at one input. -/
def fnExactSentBytesWrong : ChangeSpec := { name := "fnExactSentBytes", fn := fun _ => fun
  | [d1, d2] => { results := [.lit (.bool false)], args := [d1, d2] }
  | _ => none }
def FnExactSentBytesWrongFalsely : Prop := fnExactSentBytesRow.holds Try.pinned (OpenSpec.ofChange fnExactSentBytesWrong)

/-- 'laws.FnExactProbeTime': WHATEVER THE INPUT: true; the input reads as it did. -/
def fnExactProbeTimeSpec : ChangeSpec := { name := "fnExactProbeTime", fn := fun _ => fun
  | [d1, d2, d3] => { results := [.lit (.bool true)], args := [d1, d2, d3] }
  | _ => none }
def fnExactProbeTimeRow : OpenClaim := { program := "ytoifedpioonnnaa", sum := "d3f6a39322841755f6f7d416ca98d268f4b1d0414a8faaf729aac37b9470bb77", func := "loop.example/g00206/laws.FnExactProbeTime", spec := "fnExactProbeTime", apart := false }
def FnExactProbeTimeSaid : Prop := fnExactProbeTimeRow.holds Try.pinned (OpenSpec.ofChange fnExactProbeTimeSpec)

/-- ITS FALSE NEIGHBOUR: 'it returns false'. Refute it at one input. -/
def fnExactProbeTimeWrong : ChangeSpec := { name := "fnExactProbeTime", fn := fun _ => fun
  | [d1, d2, d3] => { results := [.lit (.bool false)], args := [d1, d2, d3] }
  | _ => none }
def FnExactProbeTimeWrongFalsely : Prop := fnExactProbeTimeRow.holds Try.pinned (OpenSpec.ofChange fnExactProbeTimeWrong)

/- THE SECOND FORM. 'bulk': how many values and letters a reading holds, each counted each time it is reached (what is shared counts as often as it is met; a slice's spare places count too). A statement '..UptoSaid' is the law's where the arguments, and the package variables that the reading takes, are together of bulk at most 1048576: NARROWER than '..Said'. Prove '..Said' where nothing that the law and all that it calls make is longer than what came in: it says more and counts as full. Else prove '..UptoSaid'. A law counts once. -/
mutual
def uptoBulk {H : Type} : DataW H → Nat
  | .lit (.string bytes) => bytes.length + 1
  | .lit _ => 1
  | .nil => 1
  | .ptr d => uptoBulk d + 1
  | .slice elems spare => uptoBulkAll elems + uptoBulkAll spare + 1
  | .agg parts => uptoBulkAll parts + 1
  | .iface _ d => uptoBulk d + 1
  | .map entries => uptoBulkEntries entries + 1
  | .held _ => 1
def uptoBulkAll {H : Type} : List (DataW H) → Nat
  | [] => 0
  | d :: r => uptoBulk d + uptoBulkAll r
def uptoBulkEntries {H : Type} : List (Lit × DataW H) → Nat
  | [] => 0
  | x :: r => uptoBulkEntry x + uptoBulkEntries r
def uptoBulkEntry {H : Type} : Lit × DataW H → Nat
  | (.string bytes, d) => bytes.length + uptoBulk d + 1
  | (_, d) => uptoBulk d + 1
 end
def uptoSmall : (H : Type) → List (DataW H) → Bool := fun _ ds => decide (uptoBulkAll ds ≤ 1048576)
def OpenSpec.upto (s : _root_.Go.ChangeSpec) : _root_.Go.OpenSpec := { _root_.Go.OpenSpec.ofChange s with cond := some uptoSmall }

/-- 'laws.FnExactGoodWindow', WHERE WHAT IT READS IS OF BULK AT MOST 1048576: true; the input reads as it did. -/
def fnExactGoodWindowUptoRow : OpenClaim := { program := "ytoifedpioonnnaa", sum := "d3f6a39322841755f6f7d416ca98d268f4b1d0414a8faaf729aac37b9470bb77", func := "loop.example/g00206/laws.FnExactGoodWindow", spec := "fnExactGoodWindow", apart := false, narrowed := true }
def FnExactGoodWindowUptoSaid : Prop := fnExactGoodWindowUptoRow.holds Try.pinned (OpenSpec.upto fnExactGoodWindowSpec)

/-- 'laws.FnExactNewWindow', WHERE WHAT IT READS IS OF BULK AT MOST 1048576: true; the input reads as it did. -/
def fnExactNewWindowUptoRow : OpenClaim := { program := "ytoifedpioonnnaa", sum := "d3f6a39322841755f6f7d416ca98d268f4b1d0414a8faaf729aac37b9470bb77", func := "loop.example/g00206/laws.FnExactNewWindow", spec := "fnExactNewWindow", apart := false, narrowed := true }
def FnExactNewWindowUptoSaid : Prop := fnExactNewWindowUptoRow.holds Try.pinned (OpenSpec.upto fnExactNewWindowSpec)

/-- 'laws.FnExactGoodOutflow', WHERE WHAT IT READS IS OF BULK AT MOST 1048576: true; the input reads as it did. -/
def fnExactGoodOutflowUptoRow : OpenClaim := { program := "ytoifedpioonnnaa", sum := "d3f6a39322841755f6f7d416ca98d268f4b1d0414a8faaf729aac37b9470bb77", func := "loop.example/g00206/laws.FnExactGoodOutflow", spec := "fnExactGoodOutflow", apart := false, narrowed := true }
def FnExactGoodOutflowUptoSaid : Prop := fnExactGoodOutflowUptoRow.holds Try.pinned (OpenSpec.upto fnExactGoodOutflowSpec)

/-- 'laws.FnExactGoodCarried', WHERE WHAT IT READS IS OF BULK AT MOST 1048576: true; the input reads as it did. -/
def fnExactGoodCarriedUptoRow : OpenClaim := { program := "ytoifedpioonnnaa", sum := "d3f6a39322841755f6f7d416ca98d268f4b1d0414a8faaf729aac37b9470bb77", func := "loop.example/g00206/laws.FnExactGoodCarried", spec := "fnExactGoodCarried", apart := false, narrowed := true }
def FnExactGoodCarriedUptoSaid : Prop := fnExactGoodCarriedUptoRow.holds Try.pinned (OpenSpec.upto fnExactGoodCarriedSpec)

/-- 'laws.FnExactKeyOf', WHERE WHAT IT READS IS OF BULK AT MOST 1048576: true; the input reads as it did. -/
def fnExactKeyOfUptoRow : OpenClaim := { program := "ytoifedpioonnnaa", sum := "d3f6a39322841755f6f7d416ca98d268f4b1d0414a8faaf729aac37b9470bb77", func := "loop.example/g00206/laws.FnExactKeyOf", spec := "fnExactKeyOf", apart := false, narrowed := true }
def FnExactKeyOfUptoSaid : Prop := fnExactKeyOfUptoRow.holds Try.pinned (OpenSpec.upto fnExactKeyOfSpec)

/-- 'laws.FnExactRoomIn', WHERE WHAT IT READS IS OF BULK AT MOST 1048576: true; the input reads as it did. -/
def fnExactRoomInUptoRow : OpenClaim := { program := "ytoifedpioonnnaa", sum := "d3f6a39322841755f6f7d416ca98d268f4b1d0414a8faaf729aac37b9470bb77", func := "loop.example/g00206/laws.FnExactRoomIn", spec := "fnExactRoomIn", apart := false, narrowed := true }
def FnExactRoomInUptoSaid : Prop := fnExactRoomInUptoRow.holds Try.pinned (OpenSpec.upto fnExactRoomInSpec)

/-- 'laws.FnExactAgeOf', WHERE WHAT IT READS IS OF BULK AT MOST 1048576: true; the input reads as it did. -/
def fnExactAgeOfUptoRow : OpenClaim := { program := "ytoifedpioonnnaa", sum := "d3f6a39322841755f6f7d416ca98d268f4b1d0414a8faaf729aac37b9470bb77", func := "loop.example/g00206/laws.FnExactAgeOf", spec := "fnExactAgeOf", apart := false, narrowed := true }
def FnExactAgeOfUptoSaid : Prop := fnExactAgeOfUptoRow.holds Try.pinned (OpenSpec.upto fnExactAgeOfSpec)

/-- 'laws.FnExactStaticField', WHERE WHAT IT READS IS OF BULK AT MOST 1048576: true; the input reads as it did. -/
def fnExactStaticFieldUptoRow : OpenClaim := { program := "ytoifedpioonnnaa", sum := "d3f6a39322841755f6f7d416ca98d268f4b1d0414a8faaf729aac37b9470bb77", func := "loop.example/g00206/laws.FnExactStaticField", spec := "fnExactStaticField", apart := false, narrowed := true }
def FnExactStaticFieldUptoSaid : Prop := fnExactStaticFieldUptoRow.holds Try.pinned (OpenSpec.upto fnExactStaticFieldSpec)

/-- 'laws.FnExactTakePrefix', WHERE WHAT IT READS IS OF BULK AT MOST 1048576: true; the input reads as it did. -/
def fnExactTakePrefixUptoRow : OpenClaim := { program := "ytoifedpioonnnaa", sum := "d3f6a39322841755f6f7d416ca98d268f4b1d0414a8faaf729aac37b9470bb77", func := "loop.example/g00206/laws.FnExactTakePrefix", spec := "fnExactTakePrefix", apart := false, narrowed := true }
def FnExactTakePrefixUptoSaid : Prop := fnExactTakePrefixUptoRow.holds Try.pinned (OpenSpec.upto fnExactTakePrefixSpec)

/-- 'laws.FnExactStalledWindow', WHERE WHAT IT READS IS OF BULK AT MOST 1048576: true; the input reads as it did. -/
def fnExactStalledWindowUptoRow : OpenClaim := { program := "ytoifedpioonnnaa", sum := "d3f6a39322841755f6f7d416ca98d268f4b1d0414a8faaf729aac37b9470bb77", func := "loop.example/g00206/laws.FnExactStalledWindow", spec := "fnExactStalledWindow", apart := false, narrowed := true }
def FnExactStalledWindowUptoSaid : Prop := fnExactStalledWindowUptoRow.holds Try.pinned (OpenSpec.upto fnExactStalledWindowSpec)

/-- 'laws.FnExactSentBytes', WHERE WHAT IT READS IS OF BULK AT MOST 1048576: true; the input reads as it did. -/
def fnExactSentBytesUptoRow : OpenClaim := { program := "ytoifedpioonnnaa", sum := "d3f6a39322841755f6f7d416ca98d268f4b1d0414a8faaf729aac37b9470bb77", func := "loop.example/g00206/laws.FnExactSentBytes", spec := "fnExactSentBytes", apart := false, narrowed := true }
def FnExactSentBytesUptoSaid : Prop := fnExactSentBytesUptoRow.holds Try.pinned (OpenSpec.upto fnExactSentBytesSpec)

/-- 'laws.FnExactProbeTime', WHERE WHAT IT READS IS OF BULK AT MOST 1048576: true; the input reads as it did. -/
def fnExactProbeTimeUptoRow : OpenClaim := { program := "ytoifedpioonnnaa", sum := "d3f6a39322841755f6f7d416ca98d268f4b1d0414a8faaf729aac37b9470bb77", func := "loop.example/g00206/laws.FnExactProbeTime", spec := "fnExactProbeTime", apart := false, narrowed := true }
def FnExactProbeTimeUptoSaid : Prop := fnExactProbeTimeUptoRow.holds Try.pinned (OpenSpec.upto fnExactProbeTimeSpec)

end Rows
end Go.Proofs.Ytoifedpioonnnaa
