/-
  No cell of these rows narrows 'for every input' (looked for: loops, veiled, ifaces, maps, wideKeys, modest, calm, conditions, laid).
  DERIVED. THE GIVEN ROWS OF THIS SEAT. 12 by the template 'for every input the law returns true; each argument reads behind the call as it read before'; 0 by the template 'total and deterministic' (their statements: YtikomfdkdoognaaTotals.lean).
  GIVEN WITH THE SEED: the statements are not yours to turn. If you find one false, say at which input.
  Laid BY PROGRAM, IN A SANDBOX (cutbox-rows.mjs): the forced cells as the released guide's own fill.sh prints them over the translation 7ae30cbd235db43a… (all of the seat's roots in one cut). By AI agents, Wed Nov 11 2026. No macro, syntax, notation, axiom, sorry.
-/
import Derived.Test.YtikomfdkdoognaaChecked
import GoSem.Claim
import GoSem.ClaimJoined
import GoSem.ClaimMapViews
import Derived.JoinedTies
import Derived.KernelRfl
namespace Go.Proofs.Ytikomfdkdoognaa
/- THE CELL 'sum', in the pinned program and in every row, IS THE sha256 OF THE DUMP (.gsa) THAT YtikomfdkdoognaaProg.lean LOADS. Nothing in Lean hashes anything: it is a label: what it is worth is what the hold of that sum in a sandbox is worth. -/
noncomputable def Try.pinned : Pinned := { name := "ytikomfdkdoognaa", sum := "7ae30cbd235db43a6b10acc7dba74d9c8a2a8b6c18234a287ccc977e5b7dae3f", checked := Try.checked }
namespace Rows
def none {H : Type} : Left H := { results := [], args := [] }

/-- 'laws.FnExactPrefixBytes': WHATEVER THE INPUT: true; the input reads as it did. -/
def fnExactPrefixBytesSpec : ChangeSpec := { name := "fnExactPrefixBytes", fn := fun _ => fun
  | [d1, d2, d3] => { results := [.lit (.bool true)], args := [d1, d2, d3] }
  | _ => none }
def fnExactPrefixBytesRow : OpenClaim := { program := "ytikomfdkdoognaa", sum := "7ae30cbd235db43a6b10acc7dba74d9c8a2a8b6c18234a287ccc977e5b7dae3f", func := "loop.example/g00206/laws.FnExactPrefixBytes", spec := "fnExactPrefixBytes", apart := false }
def FnExactPrefixBytesSaid : Prop := fnExactPrefixBytesRow.holds Try.pinned (OpenSpec.ofChange fnExactPrefixBytesSpec)

/-- ITS FALSE NEIGHBOUR: 'it returns false'. Refute it at one input. -/
def fnExactPrefixBytesWrong : ChangeSpec := { name := "fnExactPrefixBytes", fn := fun _ => fun
  | [d1, d2, d3] => { results := [.lit (.bool false)], args := [d1, d2, d3] }
  | _ => none }
def FnExactPrefixBytesWrongFalsely : Prop := fnExactPrefixBytesRow.holds Try.pinned (OpenSpec.ofChange fnExactPrefixBytesWrong)

/-- 'laws.FnExactStaticAt': WHATEVER THE INPUT: true; the input reads as it did. -/
def fnExactStaticAtSpec : ChangeSpec := { name := "fnExactStaticAt", fn := fun _ => fun
  | [d] => { results := [.lit (.bool true)], args := [d] }
  | _ => none }
def fnExactStaticAtRow : OpenClaim := { program := "ytikomfdkdoognaa", sum := "7ae30cbd235db43a6b10acc7dba74d9c8a2a8b6c18234a287ccc977e5b7dae3f", func := "loop.example/g00206/laws.FnExactStaticAt", spec := "fnExactStaticAt", unfollowed := true, recurses := true, apart := false }
def FnExactStaticAtSaid : Prop := fnExactStaticAtRow.holds Try.pinned (OpenSpec.ofChange fnExactStaticAtSpec)

/-- ITS FALSE NEIGHBOUR: 'it returns false'. Refute it at one input. -/
def fnExactStaticAtWrong : ChangeSpec := { name := "fnExactStaticAt", fn := fun _ => fun
  | [d] => { results := [.lit (.bool false)], args := [d] }
  | _ => none }
def FnExactStaticAtWrongFalsely : Prop := fnExactStaticAtRow.holds Try.pinned (OpenSpec.ofChange fnExactStaticAtWrong)

/-- 'laws.FnExactLostBytes': WHATEVER THE INPUT: true; the input reads as it did. -/
def fnExactLostBytesSpec : ChangeSpec := { name := "fnExactLostBytes", fn := fun _ => fun
  | [d1, d2, d3, d4] => { results := [.lit (.bool true)], args := [d1, d2, d3, d4] }
  | _ => none }
def fnExactLostBytesRow : OpenClaim := { program := "ytikomfdkdoognaa", sum := "7ae30cbd235db43a6b10acc7dba74d9c8a2a8b6c18234a287ccc977e5b7dae3f", func := "loop.example/g00206/laws.FnExactLostBytes", spec := "fnExactLostBytes", apart := false }
def FnExactLostBytesSaid : Prop := fnExactLostBytesRow.holds Try.pinned (OpenSpec.ofChange fnExactLostBytesSpec)

/-- ITS FALSE NEIGHBOUR: 'it returns false'. Refute it at one input. -/
def fnExactLostBytesWrong : ChangeSpec := { name := "fnExactLostBytes", fn := fun _ => fun
  | [d1, d2, d3, d4] => { results := [.lit (.bool false)], args := [d1, d2, d3, d4] }
  | _ => none }
def FnExactLostBytesWrongFalsely : Prop := fnExactLostBytesRow.holds Try.pinned (OpenSpec.ofChange fnExactLostBytesWrong)

/-- 'laws.FnExactGoodRanges': WHATEVER THE INPUT: true; the input reads as it did. -/
def fnExactGoodRangesSpec : ChangeSpec := { name := "fnExactGoodRanges", fn := fun _ => fun
  | [d] => { results := [.lit (.bool true)], args := [d] }
  | _ => none }
def fnExactGoodRangesRow : OpenClaim := { program := "ytikomfdkdoognaa", sum := "7ae30cbd235db43a6b10acc7dba74d9c8a2a8b6c18234a287ccc977e5b7dae3f", func := "loop.example/g00206/laws.FnExactGoodRanges", spec := "fnExactGoodRanges", apart := false }
def FnExactGoodRangesSaid : Prop := fnExactGoodRangesRow.holds Try.pinned (OpenSpec.ofChange fnExactGoodRangesSpec)

/-- ITS FALSE NEIGHBOUR: 'it returns false'. Refute it at one input. -/
def fnExactGoodRangesWrong : ChangeSpec := { name := "fnExactGoodRanges", fn := fun _ => fun
  | [d] => { results := [.lit (.bool false)], args := [d] }
  | _ => none }
def FnExactGoodRangesWrongFalsely : Prop := fnExactGoodRangesRow.holds Try.pinned (OpenSpec.ofChange fnExactGoodRangesWrong)

/-- 'laws.FnExactAckedBytes': WHATEVER THE INPUT: true; the input reads as it did. -/
def fnExactAckedBytesSpec : ChangeSpec := { name := "fnExactAckedBytes", fn := fun _ => fun
  | [d1, d2, d3] => { results := [.lit (.bool true)], args := [d1, d2, d3] }
  | _ => none }
def fnExactAckedBytesRow : OpenClaim := { program := "ytikomfdkdoognaa", sum := "7ae30cbd235db43a6b10acc7dba74d9c8a2a8b6c18234a287ccc977e5b7dae3f", func := "loop.example/g00206/laws.FnExactAckedBytes", spec := "fnExactAckedBytes", apart := false }
def FnExactAckedBytesSaid : Prop := fnExactAckedBytesRow.holds Try.pinned (OpenSpec.ofChange fnExactAckedBytesSpec)

/-- ITS FALSE NEIGHBOUR: 'it returns false'. Refute it at one input. -/
def fnExactAckedBytesWrong : ChangeSpec := { name := "fnExactAckedBytes", fn := fun _ => fun
  | [d1, d2, d3] => { results := [.lit (.bool false)], args := [d1, d2, d3] }
  | _ => none }
def FnExactAckedBytesWrongFalsely : Prop := fnExactAckedBytesRow.holds Try.pinned (OpenSpec.ofChange fnExactAckedBytesWrong)

/-- 'laws.FnExactSampleRtt': WHATEVER THE INPUT: true; the input reads as it did. -/
def fnExactSampleRttSpec : ChangeSpec := { name := "fnExactSampleRtt", fn := fun _ => fun
  | [d1, d2, d3] => { results := [.lit (.bool true)], args := [d1, d2, d3] }
  | _ => none }
def fnExactSampleRttRow : OpenClaim := { program := "ytikomfdkdoognaa", sum := "7ae30cbd235db43a6b10acc7dba74d9c8a2a8b6c18234a287ccc977e5b7dae3f", func := "loop.example/g00206/laws.FnExactSampleRtt", spec := "fnExactSampleRtt", apart := false }
def FnExactSampleRttSaid : Prop := fnExactSampleRttRow.holds Try.pinned (OpenSpec.ofChange fnExactSampleRttSpec)

/-- ITS FALSE NEIGHBOUR: 'it returns false'. Refute it at one input. -/
def fnExactSampleRttWrong : ChangeSpec := { name := "fnExactSampleRtt", fn := fun _ => fun
  | [d1, d2, d3] => { results := [.lit (.bool false)], args := [d1, d2, d3] }
  | _ => none }
def FnExactSampleRttWrongFalsely : Prop := fnExactSampleRttRow.holds Try.pinned (OpenSpec.ofChange fnExactSampleRttWrong)

/-- 'laws.FnExactCarriedBytes': WHATEVER THE INPUT: true; the input reads as it did. -/
def fnExactCarriedBytesSpec : ChangeSpec := { name := "fnExactCarriedBytes", fn := fun _ => fun
  | [d] => { results := [.lit (.bool true)], args := [d] }
  | _ => none }
def fnExactCarriedBytesRow : OpenClaim := { program := "ytikomfdkdoognaa", sum := "7ae30cbd235db43a6b10acc7dba74d9c8a2a8b6c18234a287ccc977e5b7dae3f", func := "loop.example/g00206/laws.FnExactCarriedBytes", spec := "fnExactCarriedBytes", apart := false }
def FnExactCarriedBytesSaid : Prop := fnExactCarriedBytesRow.holds Try.pinned (OpenSpec.ofChange fnExactCarriedBytesSpec)

/-- ITS FALSE NEIGHBOUR: 'it returns false'. Refute it at one input. -/
def fnExactCarriedBytesWrong : ChangeSpec := { name := "fnExactCarriedBytes", fn := fun _ => fun
  | [d] => { results := [.lit (.bool false)], args := [d] }
  | _ => none }
def FnExactCarriedBytesWrongFalsely : Prop := fnExactCarriedBytesRow.holds Try.pinned (OpenSpec.ofChange fnExactCarriedBytesWrong)

/-- 'laws.FnExactNewInflow': WHATEVER THE INPUT: true; the input reads as it did. -/
def fnExactNewInflowSpec : ChangeSpec := { name := "fnExactNewInflow", fn := fun _ => fun
  | [d] => { results := [.lit (.bool true)], args := [d] }
  | _ => none }
def fnExactNewInflowRow : OpenClaim := { program := "ytikomfdkdoognaa", sum := "7ae30cbd235db43a6b10acc7dba74d9c8a2a8b6c18234a287ccc977e5b7dae3f", func := "loop.example/g00206/laws.FnExactNewInflow", spec := "fnExactNewInflow", apart := false }
def FnExactNewInflowSaid : Prop := fnExactNewInflowRow.holds Try.pinned (OpenSpec.ofChange fnExactNewInflowSpec)

/-- ITS FALSE NEIGHBOUR: 'it returns false'. Refute it at one input. -/
def fnExactNewInflowWrong : ChangeSpec := { name := "fnExactNewInflow", fn := fun _ => fun
  | [d] => { results := [.lit (.bool false)], args := [d] }
  | _ => none }
def FnExactNewInflowWrongFalsely : Prop := fnExactNewInflowRow.holds Try.pinned (OpenSpec.ofChange fnExactNewInflowWrong)

/-- 'laws.FnExactHasNumber': WHATEVER THE INPUT: true; the input reads as it did. -/
def fnExactHasNumberSpec : ChangeSpec := { name := "fnExactHasNumber", fn := fun _ => fun
  | [d1, d2] => { results := [.lit (.bool true)], args := [d1, d2] }
  | _ => none }
def fnExactHasNumberRow : OpenClaim := { program := "ytikomfdkdoognaa", sum := "7ae30cbd235db43a6b10acc7dba74d9c8a2a8b6c18234a287ccc977e5b7dae3f", func := "loop.example/g00206/laws.FnExactHasNumber", spec := "fnExactHasNumber", unfollowed := true, recurses := true, apart := false }
def FnExactHasNumberSaid : Prop := fnExactHasNumberRow.holds Try.pinned (OpenSpec.ofChange fnExactHasNumberSpec)

/-- ITS FALSE NEIGHBOUR: 'it returns false'. Refute it at one input. -/
def fnExactHasNumberWrong : ChangeSpec := { name := "fnExactHasNumber", fn := fun _ => fun
  | [d1, d2] => { results := [.lit (.bool false)], args := [d1, d2] }
  | _ => none }
def FnExactHasNumberWrongFalsely : Prop := fnExactHasNumberRow.holds Try.pinned (OpenSpec.ofChange fnExactHasNumberWrong)

/-- 'laws.FnExactGoodInflow': WHATEVER THE INPUT: true; the input reads as it did. -/
def fnExactGoodInflowSpec : ChangeSpec := { name := "fnExactGoodInflow", fn := fun _ => fun
  | [d] => { results := [.lit (.bool true)], args := [d] }
  | _ => none }
def fnExactGoodInflowRow : OpenClaim := { program := "ytikomfdkdoognaa", sum := "7ae30cbd235db43a6b10acc7dba74d9c8a2a8b6c18234a287ccc977e5b7dae3f", func := "loop.example/g00206/laws.FnExactGoodInflow", spec := "fnExactGoodInflow", apart := false }
def FnExactGoodInflowSaid : Prop := fnExactGoodInflowRow.holds Try.pinned (OpenSpec.ofChange fnExactGoodInflowSpec)

/-- ITS FALSE NEIGHBOUR: 'it returns false'. Refute it at one input. -/
def fnExactGoodInflowWrong : ChangeSpec := { name := "fnExactGoodInflow", fn := fun _ => fun
  | [d] => { results := [.lit (.bool false)], args := [d] }
  | _ => none }
def FnExactGoodInflowWrongFalsely : Prop := fnExactGoodInflowRow.holds Try.pinned (OpenSpec.ofChange fnExactGoodInflowWrong)

/-- 'laws.FnExactIsDone': WHATEVER THE INPUT: true; the input reads as it did. -/
def fnExactIsDoneSpec : ChangeSpec := { name := "fnExactIsDone", fn := fun _ => fun
  | [d] => { results := [.lit (.bool true)], args := [d] }
  | _ => none }
def fnExactIsDoneRow : OpenClaim := { program := "ytikomfdkdoognaa", sum := "7ae30cbd235db43a6b10acc7dba74d9c8a2a8b6c18234a287ccc977e5b7dae3f", func := "loop.example/g00206/laws.FnExactIsDone", spec := "fnExactIsDone", apart := false }
def FnExactIsDoneSaid : Prop := fnExactIsDoneRow.holds Try.pinned (OpenSpec.ofChange fnExactIsDoneSpec)

/-- ITS FALSE NEIGHBOUR: 'it returns false'. Refute it at one input. -/
def fnExactIsDoneWrong : ChangeSpec := { name := "fnExactIsDone", fn := fun _ => fun
  | [d] => { results := [.lit (.bool false)], args := [d] }
  | _ => none }
def FnExactIsDoneWrongFalsely : Prop := fnExactIsDoneRow.holds Try.pinned (OpenSpec.ofChange fnExactIsDoneWrong)

/-- 'laws.FnExactGoodSpace': WHATEVER THE INPUT: true; the input reads as it did. -/
def fnExactGoodSpaceSpec : ChangeSpec := { name := "fnExactGoodSpace", fn := fun _ => fun
  | [d] => { results := [.lit (.bool true)], args := [d] }
  | _ => none }
def fnExactGoodSpaceRow : OpenClaim := { program := "ytikomfdkdoognaa", sum := "7ae30cbd235db43a6b10acc7dba74d9c8a2a8b6c18234a287ccc977e5b7dae3f", func := "loop.example/g00206/laws.FnExactGoodSpace", spec := "fnExactGoodSpace", apart := false }
def FnExactGoodSpaceSaid : Prop := fnExactGoodSpaceRow.holds Try.pinned (OpenSpec.ofChange fnExactGoodSpaceSpec)

/-- ITS FALSE NEIGHBOUR: 'it returns false'. Refute it at one input. -/
def fnExactGoodSpaceWrong : ChangeSpec := { name := "fnExactGoodSpace", fn := fun _ => fun
  | [d] => { results := [.lit (.bool false)], args := [d] }
  | _ => none }
def FnExactGoodSpaceWrongFalsely : Prop := fnExactGoodSpaceRow.holds Try.pinned (OpenSpec.ofChange fnExactGoodSpaceWrong)

/- THE SECOND FORM. 'bulk': how many values and letters a reading holds, each counted each time it is reached (what is shared counts as often as it is met; a slice's spare places count too). A statement '..UptoSaid' is the law's where the arguments, and the package variables that the reading takes, are together of bulk at most 1048576: NARROWER than '..Said'. Prove '..Said' where nothing that the law and all that it calls make is longer than what came in: it says more and counts as full. Else prove '..UptoSaid'. A law counts once. -/
mutual
def uptoBulk {H : Type} : DataW H → Nat
  | .lit (.string bytes) => bytes.length + 1
  | .lit _ => 1
  | .nil => 1
  | .ptr d => uptoBulk d + 1
  | .slice elems spare => uptoBulkAll elems + uptoBulkAll spare + 1
  | .agg parts => uptoBulkAll parts + 1
  | .iface _ d => uptoBulk d + 1
  | .map entries => uptoBulkEntries entries + 1
  | .held _ => 1
def uptoBulkAll {H : Type} : List (DataW H) → Nat
  | [] => 0
  | d :: r => uptoBulk d + uptoBulkAll r
def uptoBulkEntries {H : Type} : List (Lit × DataW H) → Nat
  | [] => 0
  | x :: r => uptoBulkEntry x + uptoBulkEntries r
def uptoBulkEntry {H : Type} : Lit × DataW H → Nat
  | (.string bytes, d) => bytes.length + uptoBulk d + 1
  | (_, d) => uptoBulk d + 1
 end
def uptoSmall : (H : Type) → List (DataW H) → Bool := fun _ ds => decide (uptoBulkAll ds ≤ 1048576)
def OpenSpec.upto (s : _root_.Go.ChangeSpec) : _root_.Go.OpenSpec := { _root_.Go.OpenSpec.ofChange s with cond := some uptoSmall }

/-- 'laws.FnExactPrefixBytes', WHERE WHAT IT READS IS OF BULK AT MOST 1048576: true; the input reads as it did. -/
def fnExactPrefixBytesUptoRow : OpenClaim := { program := "ytikomfdkdoognaa", sum := "7ae30cbd235db43a6b10acc7dba74d9c8a2a8b6c18234a287ccc977e5b7dae3f", func := "loop.example/g00206/laws.FnExactPrefixBytes", spec := "fnExactPrefixBytes", apart := false, narrowed := true }
def FnExactPrefixBytesUptoSaid : Prop := fnExactPrefixBytesUptoRow.holds Try.pinned (OpenSpec.upto fnExactPrefixBytesSpec)

/-- 'laws.FnExactStaticAt', WHERE WHAT IT READS IS OF BULK AT MOST 1048576: true; the input reads as it did. -/
def fnExactStaticAtUptoRow : OpenClaim := { program := "ytikomfdkdoognaa", sum := "7ae30cbd235db43a6b10acc7dba74d9c8a2a8b6c18234a287ccc977e5b7dae3f", func := "loop.example/g00206/laws.FnExactStaticAt", spec := "fnExactStaticAt", unfollowed := true, recurses := true, apart := false, narrowed := true }
def FnExactStaticAtUptoSaid : Prop := fnExactStaticAtUptoRow.holds Try.pinned (OpenSpec.upto fnExactStaticAtSpec)

/-- 'laws.FnExactLostBytes', WHERE WHAT IT READS IS OF BULK AT MOST 1048576: true; the input reads as it did. -/
def fnExactLostBytesUptoRow : OpenClaim := { program := "ytikomfdkdoognaa", sum := "7ae30cbd235db43a6b10acc7dba74d9c8a2a8b6c18234a287ccc977e5b7dae3f", func := "loop.example/g00206/laws.FnExactLostBytes", spec := "fnExactLostBytes", apart := false, narrowed := true }
def FnExactLostBytesUptoSaid : Prop := fnExactLostBytesUptoRow.holds Try.pinned (OpenSpec.upto fnExactLostBytesSpec)

/-- 'laws.FnExactGoodRanges', WHERE WHAT IT READS IS OF BULK AT MOST 1048576: true; the input reads as it did. -/
def fnExactGoodRangesUptoRow : OpenClaim := { program := "ytikomfdkdoognaa", sum := "7ae30cbd235db43a6b10acc7dba74d9c8a2a8b6c18234a287ccc977e5b7dae3f", func := "loop.example/g00206/laws.FnExactGoodRanges", spec := "fnExactGoodRanges", apart := false, narrowed := true }
def FnExactGoodRangesUptoSaid : Prop := fnExactGoodRangesUptoRow.holds Try.pinned (OpenSpec.upto fnExactGoodRangesSpec)

/-- 'laws.FnExactAckedBytes', WHERE WHAT IT READS IS OF BULK AT MOST 1048576: true; the input reads as it did. -/
def fnExactAckedBytesUptoRow : OpenClaim := { program := "ytikomfdkdoognaa", sum := "7ae30cbd235db43a6b10acc7dba74d9c8a2a8b6c18234a287ccc977e5b7dae3f", func := "loop.example/g00206/laws.FnExactAckedBytes", spec := "fnExactAckedBytes", apart := false, narrowed := true }
def FnExactAckedBytesUptoSaid : Prop := fnExactAckedBytesUptoRow.holds Try.pinned (OpenSpec.upto fnExactAckedBytesSpec)

/-- 'laws.FnExactSampleRtt', WHERE WHAT IT READS IS OF BULK AT MOST 1048576: true; the input reads as it did. -/
def fnExactSampleRttUptoRow : OpenClaim := { program := "ytikomfdkdoognaa", sum := "7ae30cbd235db43a6b10acc7dba74d9c8a2a8b6c18234a287ccc977e5b7dae3f", func := "loop.example/g00206/laws.FnExactSampleRtt", spec := "fnExactSampleRtt", apart := false, narrowed := true }
def FnExactSampleRttUptoSaid : Prop := fnExactSampleRttUptoRow.holds Try.pinned (OpenSpec.upto fnExactSampleRttSpec)

/-- 'laws.FnExactCarriedBytes', WHERE WHAT IT READS IS OF BULK AT MOST 1048576: true; the input reads as it did. -/
def fnExactCarriedBytesUptoRow : OpenClaim := { program := "ytikomfdkdoognaa", sum := "7ae30cbd235db43a6b10acc7dba74d9c8a2a8b6c18234a287ccc977e5b7dae3f", func := "loop.example/g00206/laws.FnExactCarriedBytes", spec := "fnExactCarriedBytes", apart := false, narrowed := true }
def FnExactCarriedBytesUptoSaid : Prop := fnExactCarriedBytesUptoRow.holds Try.pinned (OpenSpec.upto fnExactCarriedBytesSpec)

/-- 'laws.FnExactNewInflow', WHERE WHAT IT READS IS OF BULK AT MOST 1048576: true; the input reads as it did. -/
def fnExactNewInflowUptoRow : OpenClaim := { program := "ytikomfdkdoognaa", sum := "7ae30cbd235db43a6b10acc7dba74d9c8a2a8b6c18234a287ccc977e5b7dae3f", func := "loop.example/g00206/laws.FnExactNewInflow", spec := "fnExactNewInflow", apart := false, narrowed := true }
def FnExactNewInflowUptoSaid : Prop := fnExactNewInflowUptoRow.holds Try.pinned (OpenSpec.upto fnExactNewInflowSpec)

/-- 'laws.FnExactHasNumber', WHERE WHAT IT READS IS OF BULK AT MOST 1048576: true; the input reads as it did. -/
def fnExactHasNumberUptoRow : OpenClaim := { program := "ytikomfdkdoognaa", sum := "7ae30cbd235db43a6b10acc7dba74d9c8a2a8b6c18234a287ccc977e5b7dae3f", func := "loop.example/g00206/laws.FnExactHasNumber", spec := "fnExactHasNumber", unfollowed := true, recurses := true, apart := false, narrowed := true }
def FnExactHasNumberUptoSaid : Prop := fnExactHasNumberUptoRow.holds Try.pinned (OpenSpec.upto fnExactHasNumberSpec)

/-- 'laws.FnExactGoodInflow', WHERE WHAT IT READS IS OF BULK AT MOST 1048576: true; the input reads as it did. -/
def fnExactGoodInflowUptoRow : OpenClaim := { program := "ytikomfdkdoognaa", sum := "7ae30cbd235db43a6b10acc7dba74d9c8a2a8b6c18234a287ccc977e5b7dae3f", func := "loop.example/g00206/laws.FnExactGoodInflow", spec := "fnExactGoodInflow", apart := false, narrowed := true }
def FnExactGoodInflowUptoSaid : Prop := fnExactGoodInflowUptoRow.holds Try.pinned (OpenSpec.upto fnExactGoodInflowSpec)

/-- 'laws.FnExactIsDone', WHERE WHAT IT READS IS OF BULK AT MOST 1048576: true; the input reads as it did. -/
def fnExactIsDoneUptoRow : OpenClaim := { program := "ytikomfdkdoognaa", sum := "7ae30cbd235db43a6b10acc7dba74d9c8a2a8b6c18234a287ccc977e5b7dae3f", func := "loop.example/g00206/laws.FnExactIsDone", spec := "fnExactIsDone", apart := false, narrowed := true }
def FnExactIsDoneUptoSaid : Prop := fnExactIsDoneUptoRow.holds Try.pinned (OpenSpec.upto fnExactIsDoneSpec)

/-- 'laws.FnExactGoodSpace', WHERE WHAT IT READS IS OF BULK AT MOST 1048576: true; the input reads as it did. -/
def fnExactGoodSpaceUptoRow : OpenClaim := { program := "ytikomfdkdoognaa", sum := "7ae30cbd235db43a6b10acc7dba74d9c8a2a8b6c18234a287ccc977e5b7dae3f", func := "loop.example/g00206/laws.FnExactGoodSpace", spec := "fnExactGoodSpace", apart := false, narrowed := true }
def FnExactGoodSpaceUptoSaid : Prop := fnExactGoodSpaceUptoRow.holds Try.pinned (OpenSpec.upto fnExactGoodSpaceSpec)

end Rows
end Go.Proofs.Ytikomfdkdoognaa
