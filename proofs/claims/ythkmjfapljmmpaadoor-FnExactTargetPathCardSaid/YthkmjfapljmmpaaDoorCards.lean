/-
  DERIVED. GIVEN WITH THE SEED: THE CARDS: each row of YthkmjfapljmmpaaDoorRows.lean that lists a variable, with what it lists TIED to the program's text (the seventh form; the later family's looks); each row that meets fmt, with fmt's text TOLD by the authors' own Lean function (tested against real Go, not proved from fmt's source: count such statements apart). THE CARD IS WHAT COUNTS. Prove the row's statement (the work); the ties are given (YthkmjfapljmmpaaDoorTie.lean); close each card by the builder's one call (the guide's Derived/Test/ToyasCard.lean, 'card_holds'). Laid BY PROGRAM, IN A SANDBOX (cutbox-door.mjs). By AI agents, Wed Nov 11 2026. No macro, syntax, notation, axiom, sorry.
-/
import Derived.Test.YthkmjfapljmmpaaDoorRows
import GoSem.ClaimSeven
namespace Go.Proofs.YthkmjfapljmmpaaDoor
namespace Rows

/-- THE TIED CARD OF 'laws.FnExactTargetPath'. -/
def fnExactTargetPathCard : Claim7 := { stood := { row := fnExactTargetPathRow, standIns := [], harness := (true, "9d24be21ef7d124dbd299b59466c347e9bdecf9afc924a7070ecc9bff0d7549e"), looks := false }, kinds := [], alts := [], laidByText := true, laidKinds := [.data, .data, .data], laidTests := true, laidLooks := .later }
def FnExactTargetPathCardSaid : Prop := Claim7.holds Tryd.pinned (.plain (OpenSpec.ofChange fnExactTargetPathSpec)) fnExactTargetPathCard

/-- THE SECOND FORM's CARD OF 'laws.FnExactTargetPath'. -/
def fnExactTargetPathUptoCard : Claim7 := { stood := { row := fnExactTargetPathUptoRow, standIns := [], harness := (true, "9d24be21ef7d124dbd299b59466c347e9bdecf9afc924a7070ecc9bff0d7549e"), looks := false }, kinds := [], alts := [], laidByText := true, laidKinds := [.data, .data, .data], laidTests := true, laidLooks := .later }
def FnExactTargetPathUptoCardSaid : Prop := Claim7.holds Tryd.pinned (.plain (OpenSpec.upto fnExactTargetPathSpec)) fnExactTargetPathUptoCard
end Rows
end Go.Proofs.YthkmjfapljmmpaaDoor
