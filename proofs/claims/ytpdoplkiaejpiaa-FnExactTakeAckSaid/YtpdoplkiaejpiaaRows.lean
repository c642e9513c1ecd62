/-
  No cell of these rows narrows 'for every input' (looked for: loops, veiled, ifaces, maps, wideKeys, modest, calm, conditions, laid).
  DERIVED. THE GIVEN ROWS OF THIS SEAT. 5 by the template 'for every input the law returns true; each argument reads behind the call as it read before'; 0 by the template 'total and deterministic' (their statements: YtpdoplkiaejpiaaTotals.lean).
  GIVEN WITH THE SEED: the statements are not yours to turn. If you find one false, say at which input.
  Laid BY PROGRAM, IN A SANDBOX (cutbox-rows.mjs): the forced cells as the released guide's own fill.sh prints them over the translation 87ab77027a0de03b… (all of the seat's roots in one cut). By AI agents, Wed Nov 11 2026. No macro, syntax, notation, axiom, sorry.
-/
import Derived.Test.YtpdoplkiaejpiaaChecked
import GoSem.Claim
import GoSem.ClaimJoined
import GoSem.ClaimMapViews
import Derived.JoinedTies
import Derived.KernelRfl
namespace Go.Proofs.Ytpdoplkiaejpiaa
/- THE CELL 'sum', in the pinned program and in every row, IS THE sha256 OF THE DUMP (.gsa) THAT YtpdoplkiaejpiaaProg.lean LOADS. Nothing in Lean hashes anything: it is a label: what it is worth is what the hold of that sum in a sandbox is worth. -/
noncomputable def Try.pinned : Pinned := { name := "ytpdoplkiaejpiaa", sum := "87ab77027a0de03b8391d624339fc65726f6db1b1e79584cfe10818596f66737", checked := Try.checked }
namespace Rows
def none {H : Type} : Left H := { results := [], args := [] }

/-- 'laws.FnExactFrameBytes': WHATEVER THE INPUT: true; the input reads as it did. -/
def fnExactFrameBytesSpec : ChangeSpec := { name := "fnExactFrameBytes", fn := fun _ => fun
  | [d] => { results := [.lit (.bool true)], args := [d] }
  | _ => none }
def fnExactFrameBytesRow : OpenClaim := { program := "ytpdoplkiaejpiaa", sum := "87ab77027a0de03b8391d624339fc65726f6db1b1e79584cfe10818596f66737", func := "loop.example/g00206/laws.FnExactFrameBytes", spec := "fnExactFrameBytes", apart := false }
def FnExactFrameBytesSaid : Prop := fnExactFrameBytesRow.holds Try.pinned (OpenSpec.ofChange fnExactFrameBytesSpec)

/-- ITS FALSE NEIGHBOUR: 'it returns false'. Refute it at one input. -/
def fnExactFrameBytesWrong : ChangeSpec := { name := "fnExactFrameBytes", fn := fun _ => fun
  | [d] => { results := [.lit (.bool false)], args := [d] }
  | _ => none }
def FnExactFrameBytesWrongFalsely : Prop := fnExactFrameBytesRow.holds Try.pinned (OpenSpec.ofChange fnExactFrameBytesWrong)

/-- 'laws.FnExactTakeAck': WHATEVER THE INPUT: true; the input reads as it did. -/
def fnExactTakeAckSpec : ChangeSpec := { name := "fnExactTakeAck", fn := fun _ => fun
  | [d1, d2, d3, d4] => { results := [.lit (.bool true)], args := [d1, d2, d3, d4] }
  | _ => none }
def fnExactTakeAckRow : OpenClaim := { program := "ytpdoplkiaejpiaa", sum := "87ab77027a0de03b8391d624339fc65726f6db1b1e79584cfe10818596f66737", func := "loop.example/g00206/laws.FnExactTakeAck", spec := "fnExactTakeAck", unfollowed := true, recurses := true, apart := false }
def FnExactTakeAckSaid : Prop := fnExactTakeAckRow.holds Try.pinned (OpenSpec.ofChange fnExactTakeAckSpec)

/-- ITS FALSE NEIGHBOUR: 'it returns false'. Refute it at one input. -/
def fnExactTakeAckWrong : ChangeSpec := { name := "fnExactTakeAck", fn := fun _ => fun
  | [d1, d2, d3, d4] => { results := [.lit (.bool false)], args := [d1, d2, d3, d4] }
  | _ => none }
def FnExactTakeAckWrongFalsely : Prop := fnExactTakeAckRow.holds Try.pinned (OpenSpec.ofChange fnExactTakeAckWrong)

/-- 'laws.FnExactFramesBytes': WHATEVER THE INPUT: true; the input reads as it did. -/
def fnExactFramesBytesSpec : ChangeSpec := { name := "fnExactFramesBytes", fn := fun _ => fun
  | [d] => { results := [.lit (.bool true)], args := [d] }
  | _ => none }
def fnExactFramesBytesRow : OpenClaim := { program := "ytpdoplkiaejpiaa", sum := "87ab77027a0de03b8391d624339fc65726f6db1b1e79584cfe10818596f66737", func := "loop.example/g00206/laws.FnExactFramesBytes", spec := "fnExactFramesBytes", unfollowed := true, recurses := true, apart := false }
def FnExactFramesBytesSaid : Prop := fnExactFramesBytesRow.holds Try.pinned (OpenSpec.ofChange fnExactFramesBytesSpec)

/-- ITS FALSE NEIGHBOUR: 'it returns false'. Refute it at one input. -/
def fnExactFramesBytesWrong : ChangeSpec := { name := "fnExactFramesBytes", fn := fun _ => fun
  | [d] => { results := [.lit (.bool false)], args := [d] }
  | _ => none }
def FnExactFramesBytesWrongFalsely : Prop := fnExactFramesBytesRow.holds Try.pinned (OpenSpec.ofChange fnExactFramesBytesWrong)

/-- 'laws.FnExactPlayStream': WHATEVER THE INPUT: true; the input reads as it did. -/
def fnExactPlayStreamSpec : ChangeSpec := { name := "fnExactPlayStream", fn := fun _ => fun
  | [d1, d2, d3, d4] => { results := [.lit (.bool true)], args := [d1, d2, d3, d4] }
  | _ => none }
def fnExactPlayStreamRow : OpenClaim := { program := "ytpdoplkiaejpiaa", sum := "87ab77027a0de03b8391d624339fc65726f6db1b1e79584cfe10818596f66737", func := "loop.example/g00206/laws.FnExactPlayStream", spec := "fnExactPlayStream", inPlace := ["slices.overlaps[loop.example/g00206/impl.Piece]"], unfollowed := true, recurses := true, apart := false }
def FnExactPlayStreamSaid : Prop := fnExactPlayStreamRow.holds Try.pinned (OpenSpec.ofChange fnExactPlayStreamSpec)

/-- ITS FALSE NEIGHBOUR: 'it returns false'. Refute it at one input. -/
def fnExactPlayStreamWrong : ChangeSpec := { name := "fnExactPlayStream", fn := fun _ => fun
  | [d1, d2, d3, d4] => { results := [.lit (.bool false)], args := [d1, d2, d3, d4] }
  | _ => none }
def FnExactPlayStreamWrongFalsely : Prop := fnExactPlayStreamRow.holds Try.pinned (OpenSpec.ofChange fnExactPlayStreamWrong)

/-- 'laws.FnExactTakePiece': WHATEVER THE INPUT: true; the input reads as it did. -/
def fnExactTakePieceSpec : ChangeSpec := { name := "fnExactTakePiece", fn := fun _ => fun
  | [d1, d2, d3, d4] => { results := [.lit (.bool true)], args := [d1, d2, d3, d4] }
  | _ => none }
def fnExactTakePieceRow : OpenClaim := { program := "ytpdoplkiaejpiaa", sum := "87ab77027a0de03b8391d624339fc65726f6db1b1e79584cfe10818596f66737", func := "loop.example/g00206/laws.FnExactTakePiece", spec := "fnExactTakePiece", inPlace := ["slices.overlaps[loop.example/g00206/impl.Piece]"], unfollowed := true, recurses := true, apart := false }
def FnExactTakePieceSaid : Prop := fnExactTakePieceRow.holds Try.pinned (OpenSpec.ofChange fnExactTakePieceSpec)

/-- ITS FALSE NEIGHBOUR: 'it returns false'. Refute it at one input. -/
def fnExactTakePieceWrong : ChangeSpec := { name := "fnExactTakePiece", fn := fun _ => fun
  | [d1, d2, d3, d4] => { results := [.lit (.bool false)], args := [d1, d2, d3, d4] }
  | _ => none }
def FnExactTakePieceWrongFalsely : Prop := fnExactTakePieceRow.holds Try.pinned (OpenSpec.ofChange fnExactTakePieceWrong)

/- THE SECOND FORM. 'bulk': how many values and letters a reading holds, each counted each time it is reached (what is shared counts as often as it is met; a slice's spare places count too). A statement '..UptoSaid' is the law's where the arguments, and the package variables that the reading takes, are together of bulk at most 1048576: NARROWER than '..Said'. Prove '..Said' where nothing that the law and all that it calls make is longer than what came in: it says more and counts as full. Else prove '..UptoSaid'. A law counts once. -/
mutual
def uptoBulk {H : Type} : DataW H → Nat
  | .lit (.string bytes) => bytes.length + 1
  | .lit _ => 1
  | .nil => 1
  | .ptr d => uptoBulk d + 1
  | .slice elems spare => uptoBulkAll elems + uptoBulkAll spare + 1
  | .agg parts => uptoBulkAll parts + 1
  | .iface _ d => uptoBulk d + 1
  | .map entries => uptoBulkEntries entries + 1
  | .held _ => 1
def uptoBulkAll {H : Type} : List (DataW H) → Nat
  | [] => 0
  | d :: r => uptoBulk d + uptoBulkAll r
def uptoBulkEntries {H : Type} : List (Lit × DataW H) → Nat
  | [] => 0
  | x :: r => uptoBulkEntry x + uptoBulkEntries r
def uptoBulkEntry {H : Type} : Lit × DataW H → Nat
  | (.string bytes, d) => bytes.length + uptoBulk d + 1
  | (_, d) => uptoBulk d + 1
 end
def uptoSmall : (H : Type) → List (DataW H) → Bool := fun _ ds => decide (uptoBulkAll ds ≤ 1048576)
def OpenSpec.upto (s : _root_.Go.ChangeSpec) : _root_.Go.OpenSpec := { _root_.Go.OpenSpec.ofChange s with cond := some uptoSmall }

/-- 'laws.FnExactFrameBytes', WHERE WHAT IT READS IS OF BULK AT MOST 1048576: true; the input reads as it did. -/
def fnExactFrameBytesUptoRow : OpenClaim := { program := "ytpdoplkiaejpiaa", sum := "87ab77027a0de03b8391d624339fc65726f6db1b1e79584cfe10818596f66737", func := "loop.example/g00206/laws.FnExactFrameBytes", spec := "fnExactFrameBytes", apart := false, narrowed := true }
def FnExactFrameBytesUptoSaid : Prop := fnExactFrameBytesUptoRow.holds Try.pinned (OpenSpec.upto fnExactFrameBytesSpec)

/-- 'laws.FnExactTakeAck', WHERE WHAT IT READS IS OF BULK AT MOST 1048576: true; the input reads as it did. -/
def fnExactTakeAckUptoRow : OpenClaim := { program := "ytpdoplkiaejpiaa", sum := "87ab77027a0de03b8391d624339fc65726f6db1b1e79584cfe10818596f66737", func := "loop.example/g00206/laws.FnExactTakeAck", spec := "fnExactTakeAck", unfollowed := true, recurses := true, apart := false, narrowed := true }
def FnExactTakeAckUptoSaid : Prop := fnExactTakeAckUptoRow.holds Try.pinned (OpenSpec.upto fnExactTakeAckSpec)

/-- 'laws.FnExactFramesBytes', WHERE WHAT IT READS IS OF BULK AT MOST 1048576: true; the input reads as it did. -/
def fnExactFramesBytesUptoRow : OpenClaim := { program := "ytpdoplkiaejpiaa", sum := "87ab77027a0de03b8391d624339fc65726f6db1b1e79584cfe10818596f66737", func := "loop.example/g00206/laws.FnExactFramesBytes", spec := "fnExactFramesBytes", unfollowed := true, recurses := true, apart := false, narrowed := true }
def FnExactFramesBytesUptoSaid : Prop := fnExactFramesBytesUptoRow.holds Try.pinned (OpenSpec.upto fnExactFramesBytesSpec)

/-- 'laws.FnExactPlayStream', WHERE WHAT IT READS IS OF BULK AT MOST 1048576: true; the input reads as it did. -/
def fnExactPlayStreamUptoRow : OpenClaim := { program := "ytpdoplkiaejpiaa", sum := "87ab77027a0de03b8391d624339fc65726f6db1b1e79584cfe10818596f66737", func := "loop.example/g00206/laws.FnExactPlayStream", spec := "fnExactPlayStream", inPlace := ["slices.overlaps[loop.example/g00206/impl.Piece]"], unfollowed := true, recurses := true, apart := false, narrowed := true }
def FnExactPlayStreamUptoSaid : Prop := fnExactPlayStreamUptoRow.holds Try.pinned (OpenSpec.upto fnExactPlayStreamSpec)

/-- 'laws.FnExactTakePiece', WHERE WHAT IT READS IS OF BULK AT MOST 1048576: true; the input reads as it did. -/
def fnExactTakePieceUptoRow : OpenClaim := { program := "ytpdoplkiaejpiaa", sum := "87ab77027a0de03b8391d624339fc65726f6db1b1e79584cfe10818596f66737", func := "loop.example/g00206/laws.FnExactTakePiece", spec := "fnExactTakePiece", inPlace := ["slices.overlaps[loop.example/g00206/impl.Piece]"], unfollowed := true, recurses := true, apart := false, narrowed := true }
def FnExactTakePieceUptoSaid : Prop := fnExactTakePieceUptoRow.holds Try.pinned (OpenSpec.upto fnExactTakePieceSpec)

end Rows
end Go.Proofs.Ytpdoplkiaejpiaa
