/-
  No cell of these rows narrows 'for every input' (looked for: loops, veiled, ifaces, maps, wideKeys, modest, calm, conditions, laid).
  DERIVED. THE GIVEN ROWS OF THIS SEAT. 11 by the template 'for every input the law returns true; each argument reads behind the call as it read before'; 0 by the template 'total and deterministic' (their statements: YthkmjfapljmmpaaTotals.lean).
  GIVEN WITH THE SEED: the statements are not yours to turn. If you find one false, say at which input.
  Laid BY PROGRAM, IN A SANDBOX (cutbox-rows.mjs): the forced cells as the released guide's own fill.sh prints them over the translation 29d58fbcc3c66214… (all of the seat's roots in one cut). By AI agents, Wed Nov 11 2026. No macro, syntax, notation, axiom, sorry.
-/
import Derived.Test.YthkmjfapljmmpaaChecked
import GoSem.Claim
import GoSem.ClaimJoined
import GoSem.ClaimMapViews
import Derived.JoinedTies
import Derived.KernelRfl
namespace Go.Proofs.Ythkmjfapljmmpaa
/- THE CELL 'sum', in the pinned program and in every row, IS THE sha256 OF THE DUMP (.gsa) THAT YthkmjfapljmmpaaProg.lean LOADS. Nothing in Lean hashes anything: it is a label: what it is worth is what the hold of that sum in a sandbox is worth. -/
noncomputable def Try.pinned : Pinned := { name := "ythkmjfapljmmpaa", sum := "29d58fbcc3c66214cda8a2563eedb756b1af9bdbf00fdfa0b64b9a40878a7b39", checked := Try.checked }
namespace Rows
def none {H : Type} : Left H := { results := [], args := [] }

/-- 'laws.FnExactNextPiece': WHATEVER THE INPUT: true; the input reads as it did. -/
def fnExactNextPieceSpec : ChangeSpec := { name := "fnExactNextPiece", fn := fun _ => fun
  | [d1, d2] => { results := [.lit (.bool true)], args := [d1, d2] }
  | _ => none }
def fnExactNextPieceRow : OpenClaim := { program := "ythkmjfapljmmpaa", sum := "29d58fbcc3c66214cda8a2563eedb756b1af9bdbf00fdfa0b64b9a40878a7b39", func := "loop.example/g00206/laws.FnExactNextPiece", spec := "fnExactNextPiece", apart := false }
def FnExactNextPieceSaid : Prop := fnExactNextPieceRow.holds Try.pinned (OpenSpec.ofChange fnExactNextPieceSpec)

/-- ITS FALSE NEIGHBOUR: 'it returns false'. Refute it at one input. -/
def fnExactNextPieceWrong : ChangeSpec := { name := "fnExactNextPiece", fn := fun _ => fun
  | [d1, d2] => { results := [.lit (.bool false)], args := [d1, d2] }
  | _ => none }
def FnExactNextPieceWrongFalsely : Prop := fnExactNextPieceRow.holds Try.pinned (OpenSpec.ofChange fnExactNextPieceWrong)

/-- 'laws.FnExactKnownCapsules': WHATEVER THE INPUT: true; the input reads as it did. -/
def fnExactKnownCapsulesSpec : ChangeSpec := { name := "fnExactKnownCapsules", fn := fun _ => fun
  | [d] => { results := [.lit (.bool true)], args := [d] }
  | _ => none }
def fnExactKnownCapsulesRow : OpenClaim := { program := "ythkmjfapljmmpaa", sum := "29d58fbcc3c66214cda8a2563eedb756b1af9bdbf00fdfa0b64b9a40878a7b39", func := "loop.example/g00206/laws.FnExactKnownCapsules", spec := "fnExactKnownCapsules", unfollowed := true, recurses := true, apart := false }
def FnExactKnownCapsulesSaid : Prop := fnExactKnownCapsulesRow.holds Try.pinned (OpenSpec.ofChange fnExactKnownCapsulesSpec)

/-- ITS FALSE NEIGHBOUR: 'it returns false'. Refute it at one input. -/
def fnExactKnownCapsulesWrong : ChangeSpec := { name := "fnExactKnownCapsules", fn := fun _ => fun
  | [d] => { results := [.lit (.bool false)], args := [d] }
  | _ => none }
def FnExactKnownCapsulesWrongFalsely : Prop := fnExactKnownCapsulesRow.holds Try.pinned (OpenSpec.ofChange fnExactKnownCapsulesWrong)

/-- 'laws.FnExactCapsulesBytes': WHATEVER THE INPUT: true; the input reads as it did. -/
def fnExactCapsulesBytesSpec : ChangeSpec := { name := "fnExactCapsulesBytes", fn := fun _ => fun
  | [d] => { results := [.lit (.bool true)], args := [d] }
  | _ => none }
def fnExactCapsulesBytesRow : OpenClaim := { program := "ythkmjfapljmmpaa", sum := "29d58fbcc3c66214cda8a2563eedb756b1af9bdbf00fdfa0b64b9a40878a7b39", func := "loop.example/g00206/laws.FnExactCapsulesBytes", spec := "fnExactCapsulesBytes", unfollowed := true, recurses := true, apart := false }
def FnExactCapsulesBytesSaid : Prop := fnExactCapsulesBytesRow.holds Try.pinned (OpenSpec.ofChange fnExactCapsulesBytesSpec)

/-- ITS FALSE NEIGHBOUR: 'it returns false'. Refute it at one input. -/
def fnExactCapsulesBytesWrong : ChangeSpec := { name := "fnExactCapsulesBytes", fn := fun _ => fun
  | [d] => { results := [.lit (.bool false)], args := [d] }
  | _ => none }
def FnExactCapsulesBytesWrongFalsely : Prop := fnExactCapsulesBytesRow.holds Try.pinned (OpenSpec.ofChange fnExactCapsulesBytesWrong)

/-- 'laws.FnExactAllowsTarget': WHATEVER THE INPUT: true; the input reads as it did. -/
def fnExactAllowsTargetSpec : ChangeSpec := { name := "fnExactAllowsTarget", fn := fun _ => fun
  | [d1, d2, d3] => { results := [.lit (.bool true)], args := [d1, d2, d3] }
  | _ => none }
def fnExactAllowsTargetRow : OpenClaim := { program := "ythkmjfapljmmpaa", sum := "29d58fbcc3c66214cda8a2563eedb756b1af9bdbf00fdfa0b64b9a40878a7b39", func := "loop.example/g00206/laws.FnExactAllowsTarget", spec := "fnExactAllowsTarget", inPlace := ["internal/bytealg.IndexByteString"], unfollowed := true, recurses := true, apart := false }
def FnExactAllowsTargetSaid : Prop := fnExactAllowsTargetRow.holds Try.pinned (OpenSpec.ofChange fnExactAllowsTargetSpec)

/-- ITS FALSE NEIGHBOUR: 'it returns false'. Refute it at one input. -/
def fnExactAllowsTargetWrong : ChangeSpec := { name := "fnExactAllowsTarget", fn := fun _ => fun
  | [d1, d2, d3] => { results := [.lit (.bool false)], args := [d1, d2, d3] }
  | _ => none }
def FnExactAllowsTargetWrongFalsely : Prop := fnExactAllowsTargetRow.holds Try.pinned (OpenSpec.ofChange fnExactAllowsTargetWrong)

/-- 'laws.FnExactRaiseLimit': WHATEVER THE INPUT: true; the input reads as it did. -/
def fnExactRaiseLimitSpec : ChangeSpec := { name := "fnExactRaiseLimit", fn := fun _ => fun
  | [d1, d2] => { results := [.lit (.bool true)], args := [d1, d2] }
  | _ => none }
def fnExactRaiseLimitRow : OpenClaim := { program := "ythkmjfapljmmpaa", sum := "29d58fbcc3c66214cda8a2563eedb756b1af9bdbf00fdfa0b64b9a40878a7b39", func := "loop.example/g00206/laws.FnExactRaiseLimit", spec := "fnExactRaiseLimit", apart := false }
def FnExactRaiseLimitSaid : Prop := fnExactRaiseLimitRow.holds Try.pinned (OpenSpec.ofChange fnExactRaiseLimitSpec)

/-- ITS FALSE NEIGHBOUR: 'it returns false'. Refute it at one input. -/
def fnExactRaiseLimitWrong : ChangeSpec := { name := "fnExactRaiseLimit", fn := fun _ => fun
  | [d1, d2] => { results := [.lit (.bool false)], args := [d1, d2] }
  | _ => none }
def FnExactRaiseLimitWrongFalsely : Prop := fnExactRaiseLimitRow.holds Try.pinned (OpenSpec.ofChange fnExactRaiseLimitWrong)

/-- 'laws.FnExactSendNumber': WHATEVER THE INPUT: true; the input reads as it did. -/
def fnExactSendNumberSpec : ChangeSpec := { name := "fnExactSendNumber", fn := fun _ => fun
  | [d1, d2] => { results := [.lit (.bool true)], args := [d1, d2] }
  | _ => none }
def fnExactSendNumberRow : OpenClaim := { program := "ythkmjfapljmmpaa", sum := "29d58fbcc3c66214cda8a2563eedb756b1af9bdbf00fdfa0b64b9a40878a7b39", func := "loop.example/g00206/laws.FnExactSendNumber", spec := "fnExactSendNumber", apart := false }
def FnExactSendNumberSaid : Prop := fnExactSendNumberRow.holds Try.pinned (OpenSpec.ofChange fnExactSendNumberSpec)

/-- ITS FALSE NEIGHBOUR: 'it returns false'. Refute it at one input. -/
def fnExactSendNumberWrong : ChangeSpec := { name := "fnExactSendNumber", fn := fun _ => fun
  | [d1, d2] => { results := [.lit (.bool false)], args := [d1, d2] }
  | _ => none }
def FnExactSendNumberWrongFalsely : Prop := fnExactSendNumberRow.holds Try.pinned (OpenSpec.ofChange fnExactSendNumberWrong)

/-- 'laws.FnExactReadSome': WHATEVER THE INPUT: true; the input reads as it did. -/
def fnExactReadSomeSpec : ChangeSpec := { name := "fnExactReadSome", fn := fun _ => fun
  | [d1, d2] => { results := [.lit (.bool true)], args := [d1, d2] }
  | _ => none }
def fnExactReadSomeRow : OpenClaim := { program := "ythkmjfapljmmpaa", sum := "29d58fbcc3c66214cda8a2563eedb756b1af9bdbf00fdfa0b64b9a40878a7b39", func := "loop.example/g00206/laws.FnExactReadSome", spec := "fnExactReadSome", apart := false }
def FnExactReadSomeSaid : Prop := fnExactReadSomeRow.holds Try.pinned (OpenSpec.ofChange fnExactReadSomeSpec)

/-- ITS FALSE NEIGHBOUR: 'it returns false'. Refute it at one input. -/
def fnExactReadSomeWrong : ChangeSpec := { name := "fnExactReadSome", fn := fun _ => fun
  | [d1, d2] => { results := [.lit (.bool false)], args := [d1, d2] }
  | _ => none }
def FnExactReadSomeWrongFalsely : Prop := fnExactReadSomeRow.holds Try.pinned (OpenSpec.ofChange fnExactReadSomeWrong)

/-- 'laws.FnExactHeaderBytes': WHATEVER THE INPUT: true; the input reads as it did. -/
def fnExactHeaderBytesSpec : ChangeSpec := { name := "fnExactHeaderBytes", fn := fun _ => fun
  | [d] => { results := [.lit (.bool true)], args := [d] }
  | _ => none }
def fnExactHeaderBytesRow : OpenClaim := { program := "ythkmjfapljmmpaa", sum := "29d58fbcc3c66214cda8a2563eedb756b1af9bdbf00fdfa0b64b9a40878a7b39", func := "loop.example/g00206/laws.FnExactHeaderBytes", spec := "fnExactHeaderBytes", unfollowed := true, recurses := true, apart := false }
def FnExactHeaderBytesSaid : Prop := fnExactHeaderBytesRow.holds Try.pinned (OpenSpec.ofChange fnExactHeaderBytesSpec)

/-- ITS FALSE NEIGHBOUR: 'it returns false'. Refute it at one input. -/
def fnExactHeaderBytesWrong : ChangeSpec := { name := "fnExactHeaderBytes", fn := fun _ => fun
  | [d] => { results := [.lit (.bool false)], args := [d] }
  | _ => none }
def FnExactHeaderBytesWrongFalsely : Prop := fnExactHeaderBytesRow.holds Try.pinned (OpenSpec.ofChange fnExactHeaderBytesWrong)

/-- 'laws.FnExactGoodProxy': WHATEVER THE INPUT: true; the input reads as it did. -/
def fnExactGoodProxySpec : ChangeSpec := { name := "fnExactGoodProxy", fn := fun _ => fun
  | [d] => { results := [.lit (.bool true)], args := [d] }
  | _ => none }
def fnExactGoodProxyRow : OpenClaim := { program := "ythkmjfapljmmpaa", sum := "29d58fbcc3c66214cda8a2563eedb756b1af9bdbf00fdfa0b64b9a40878a7b39", func := "loop.example/g00206/laws.FnExactGoodProxy", spec := "fnExactGoodProxy", inPlace := ["internal/bytealg.IndexByteString"], unfollowed := true, recurses := true, apart := false }
def FnExactGoodProxySaid : Prop := fnExactGoodProxyRow.holds Try.pinned (OpenSpec.ofChange fnExactGoodProxySpec)

/-- ITS FALSE NEIGHBOUR: 'it returns false'. Refute it at one input. -/
def fnExactGoodProxyWrong : ChangeSpec := { name := "fnExactGoodProxy", fn := fun _ => fun
  | [d] => { results := [.lit (.bool false)], args := [d] }
  | _ => none }
def FnExactGoodProxyWrongFalsely : Prop := fnExactGoodProxyRow.holds Try.pinned (OpenSpec.ofChange fnExactGoodProxyWrong)

/-- 'laws.FnExactPlayWindow': WHATEVER THE INPUT: true; the input reads as it did. -/
def fnExactPlayWindowSpec : ChangeSpec := { name := "fnExactPlayWindow", fn := fun _ => fun
  | [d] => { results := [.lit (.bool true)], args := [d] }
  | _ => none }
def fnExactPlayWindowRow : OpenClaim := { program := "ythkmjfapljmmpaa", sum := "29d58fbcc3c66214cda8a2563eedb756b1af9bdbf00fdfa0b64b9a40878a7b39", func := "loop.example/g00206/laws.FnExactPlayWindow", spec := "fnExactPlayWindow", apart := false }
def FnExactPlayWindowSaid : Prop := fnExactPlayWindowRow.holds Try.pinned (OpenSpec.ofChange fnExactPlayWindowSpec)

/-- ITS FALSE NEIGHBOUR: 'it returns false'. Refute it at one input. -/
def fnExactPlayWindowWrong : ChangeSpec := { name := "fnExactPlayWindow", fn := fun _ => fun
  | [d] => { results := [.lit (.bool false)], args := [d] }
  | _ => none }
def FnExactPlayWindowWrongFalsely : Prop := fnExactPlayWindowRow.holds Try.pinned (OpenSpec.ofChange fnExactPlayWindowWrong)

/-- 'laws.FnExactFrameBytes': WHATEVER THE INPUT: true; the input reads as it did. -/
def fnExactFrameBytesSpec : ChangeSpec := { name := "fnExactFrameBytes", fn := fun _ => fun
  | [d] => { results := [.lit (.bool true)], args := [d] }
  | _ => none }
def fnExactFrameBytesRow : OpenClaim := { program := "ythkmjfapljmmpaa", sum := "29d58fbcc3c66214cda8a2563eedb756b1af9bdbf00fdfa0b64b9a40878a7b39", func := "loop.example/g00206/laws.FnExactFrameBytes", spec := "fnExactFrameBytes", apart := false }
def FnExactFrameBytesSaid : Prop := fnExactFrameBytesRow.holds Try.pinned (OpenSpec.ofChange fnExactFrameBytesSpec)

/-- ITS FALSE NEIGHBOUR: 'it returns false'. Refute it at one input. -/
def fnExactFrameBytesWrong : ChangeSpec := { name := "fnExactFrameBytes", fn := fun _ => fun
  | [d] => { results := [.lit (.bool false)], args := [d] }
  | _ => none }
def FnExactFrameBytesWrongFalsely : Prop := fnExactFrameBytesRow.holds Try.pinned (OpenSpec.ofChange fnExactFrameBytesWrong)

/- THE SECOND FORM. 'bulk': how many values and letters a reading holds, each counted each time it is reached (what is shared counts as often as it is met; a slice's spare places count too). A statement '..UptoSaid' is the law's where the arguments, and the package variables that the reading takes, are together of bulk at most 1048576: NARROWER than '..Said'. Prove '..Said' where nothing that the law and all that it calls make is longer than what came in: it says more and counts as full. Else prove '..UptoSaid'. A law counts once. -/
mutual
def uptoBulk {H : Type} : DataW H → Nat
  | .lit (.string bytes) => bytes.length + 1
  | .lit _ => 1
  | .nil => 1
  | .ptr d => uptoBulk d + 1
  | .slice elems spare => uptoBulkAll elems + uptoBulkAll spare + 1
  | .agg parts => uptoBulkAll parts + 1
  | .iface _ d => uptoBulk d + 1
  | .map entries => uptoBulkEntries entries + 1
  | .held _ => 1
def uptoBulkAll {H : Type} : List (DataW H) → Nat
  | [] => 0
  | d :: r => uptoBulk d + uptoBulkAll r
def uptoBulkEntries {H : Type} : List (Lit × DataW H) → Nat
  | [] => 0
  | x :: r => uptoBulkEntry x + uptoBulkEntries r
def uptoBulkEntry {H : Type} : Lit × DataW H → Nat
  | (.string bytes, d) => bytes.length + uptoBulk d + 1
  | (_, d) => uptoBulk d + 1
 end
def uptoSmall : (H : Type) → List (DataW H) → Bool := fun _ ds => decide (uptoBulkAll ds ≤ 1048576)
def OpenSpec.upto (s : _root_.Go.ChangeSpec) : _root_.Go.OpenSpec := { _root_.Go.OpenSpec.ofChange s with cond := some uptoSmall }

/-- 'laws.FnExactNextPiece', WHERE WHAT IT READS IS OF BULK AT MOST 1048576: true; the input reads as it did. -/
def fnExactNextPieceUptoRow : OpenClaim := { program := "ythkmjfapljmmpaa", sum := "29d58fbcc3c66214cda8a2563eedb756b1af9bdbf00fdfa0b64b9a40878a7b39", func := "loop.example/g00206/laws.FnExactNextPiece", spec := "fnExactNextPiece", apart := false, narrowed := true }
def FnExactNextPieceUptoSaid : Prop := fnExactNextPieceUptoRow.holds Try.pinned (OpenSpec.upto fnExactNextPieceSpec)

/-- 'laws.FnExactKnownCapsules', WHERE WHAT IT READS IS OF BULK AT MOST 1048576: true; the input reads as it did. -/
def fnExactKnownCapsulesUptoRow : OpenClaim := { program := "ythkmjfapljmmpaa", sum := "29d58fbcc3c66214cda8a2563eedb756b1af9bdbf00fdfa0b64b9a40878a7b39", func := "loop.example/g00206/laws.FnExactKnownCapsules", spec := "fnExactKnownCapsules", unfollowed := true, recurses := true, apart := false, narrowed := true }
def FnExactKnownCapsulesUptoSaid : Prop := fnExactKnownCapsulesUptoRow.holds Try.pinned (OpenSpec.upto fnExactKnownCapsulesSpec)

/-- 'laws.FnExactCapsulesBytes', WHERE WHAT IT READS IS OF BULK AT MOST 1048576: true; the input reads as it did. -/
def fnExactCapsulesBytesUptoRow : OpenClaim := { program := "ythkmjfapljmmpaa", sum := "29d58fbcc3c66214cda8a2563eedb756b1af9bdbf00fdfa0b64b9a40878a7b39", func := "loop.example/g00206/laws.FnExactCapsulesBytes", spec := "fnExactCapsulesBytes", unfollowed := true, recurses := true, apart := false, narrowed := true }
def FnExactCapsulesBytesUptoSaid : Prop := fnExactCapsulesBytesUptoRow.holds Try.pinned (OpenSpec.upto fnExactCapsulesBytesSpec)

/-- 'laws.FnExactAllowsTarget', WHERE WHAT IT READS IS OF BULK AT MOST 1048576: true; the input reads as it did. -/
def fnExactAllowsTargetUptoRow : OpenClaim := { program := "ythkmjfapljmmpaa", sum := "29d58fbcc3c66214cda8a2563eedb756b1af9bdbf00fdfa0b64b9a40878a7b39", func := "loop.example/g00206/laws.FnExactAllowsTarget", spec := "fnExactAllowsTarget", inPlace := ["internal/bytealg.IndexByteString"], unfollowed := true, recurses := true, apart := false, narrowed := true }
def FnExactAllowsTargetUptoSaid : Prop := fnExactAllowsTargetUptoRow.holds Try.pinned (OpenSpec.upto fnExactAllowsTargetSpec)

/-- 'laws.FnExactRaiseLimit', WHERE WHAT IT READS IS OF BULK AT MOST 1048576: true; the input reads as it did. -/
def fnExactRaiseLimitUptoRow : OpenClaim := { program := "ythkmjfapljmmpaa", sum := "29d58fbcc3c66214cda8a2563eedb756b1af9bdbf00fdfa0b64b9a40878a7b39", func := "loop.example/g00206/laws.FnExactRaiseLimit", spec := "fnExactRaiseLimit", apart := false, narrowed := true }
def FnExactRaiseLimitUptoSaid : Prop := fnExactRaiseLimitUptoRow.holds Try.pinned (OpenSpec.upto fnExactRaiseLimitSpec)

/-- 'laws.FnExactSendNumber', WHERE WHAT IT READS IS OF BULK AT MOST 1048576: true; the input reads as it did. -/
def fnExactSendNumberUptoRow : OpenClaim := { program := "ythkmjfapljmmpaa", sum := "29d58fbcc3c66214cda8a2563eedb756b1af9bdbf00fdfa0b64b9a40878a7b39", func := "loop.example/g00206/laws.FnExactSendNumber", spec := "fnExactSendNumber", apart := false, narrowed := true }
def FnExactSendNumberUptoSaid : Prop := fnExactSendNumberUptoRow.holds Try.pinned (OpenSpec.upto fnExactSendNumberSpec)

/-- 'laws.FnExactReadSome', WHERE WHAT IT READS IS OF BULK AT MOST 1048576: true; the input reads as it did. -/
def fnExactReadSomeUptoRow : OpenClaim := { program := "ythkmjfapljmmpaa", sum := "29d58fbcc3c66214cda8a2563eedb756b1af9bdbf00fdfa0b64b9a40878a7b39", func := "loop.example/g00206/laws.FnExactReadSome", spec := "fnExactReadSome", apart := false, narrowed := true }
def FnExactReadSomeUptoSaid : Prop := fnExactReadSomeUptoRow.holds Try.pinned (OpenSpec.upto fnExactReadSomeSpec)

/-- 'laws.FnExactHeaderBytes', WHERE WHAT IT READS IS OF BULK AT MOST 1048576: true; the input reads as it did. -/
def fnExactHeaderBytesUptoRow : OpenClaim := { program := "ythkmjfapljmmpaa", sum := "29d58fbcc3c66214cda8a2563eedb756b1af9bdbf00fdfa0b64b9a40878a7b39", func := "loop.example/g00206/laws.FnExactHeaderBytes", spec := "fnExactHeaderBytes", unfollowed := true, recurses := true, apart := false, narrowed := true }
def FnExactHeaderBytesUptoSaid : Prop := fnExactHeaderBytesUptoRow.holds Try.pinned (OpenSpec.upto fnExactHeaderBytesSpec)

/-- 'laws.FnExactGoodProxy', WHERE WHAT IT READS IS OF BULK AT MOST 1048576: true; the input reads as it did. -/
def fnExactGoodProxyUptoRow : OpenClaim := { program := "ythkmjfapljmmpaa", sum := "29d58fbcc3c66214cda8a2563eedb756b1af9bdbf00fdfa0b64b9a40878a7b39", func := "loop.example/g00206/laws.FnExactGoodProxy", spec := "fnExactGoodProxy", inPlace := ["internal/bytealg.IndexByteString"], unfollowed := true, recurses := true, apart := false, narrowed := true }
def FnExactGoodProxyUptoSaid : Prop := fnExactGoodProxyUptoRow.holds Try.pinned (OpenSpec.upto fnExactGoodProxySpec)

/-- 'laws.FnExactPlayWindow', WHERE WHAT IT READS IS OF BULK AT MOST 1048576: true; the input reads as it did. -/
def fnExactPlayWindowUptoRow : OpenClaim := { program := "ythkmjfapljmmpaa", sum := "29d58fbcc3c66214cda8a2563eedb756b1af9bdbf00fdfa0b64b9a40878a7b39", func := "loop.example/g00206/laws.FnExactPlayWindow", spec := "fnExactPlayWindow", apart := false, narrowed := true }
def FnExactPlayWindowUptoSaid : Prop := fnExactPlayWindowUptoRow.holds Try.pinned (OpenSpec.upto fnExactPlayWindowSpec)

/-- 'laws.FnExactFrameBytes', WHERE WHAT IT READS IS OF BULK AT MOST 1048576: true; the input reads as it did. -/
def fnExactFrameBytesUptoRow : OpenClaim := { program := "ythkmjfapljmmpaa", sum := "29d58fbcc3c66214cda8a2563eedb756b1af9bdbf00fdfa0b64b9a40878a7b39", func := "loop.example/g00206/laws.FnExactFrameBytes", spec := "fnExactFrameBytes", apart := false, narrowed := true }
def FnExactFrameBytesUptoSaid : Prop := fnExactFrameBytesUptoRow.holds Try.pinned (OpenSpec.upto fnExactFrameBytesSpec)

end Rows
end Go.Proofs.Ythkmjfapljmmpaa
