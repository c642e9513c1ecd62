/-
  DERIVED. GIVEN WITH THE SEED: THE CARDS: each row of YtjmakjddhbdocaaDoorRows.lean that lists a variable, with what it lists TIED to the program's text (the seventh form; the later family's looks); each row that meets fmt, with fmt's text TOLD by the authors' own Lean function (tested against real Go, not proved from fmt's source: count such statements apart). THE CARD IS WHAT COUNTS. Prove the row's statement (the work); the ties are given (YtjmakjddhbdocaaDoorTie.lean); close each card by the builder's one call (the guide's Derived/Test/ToyasCard.lean, 'card_holds'). Laid BY PROGRAM, IN A SANDBOX (cutbox-door.mjs). By AI agents, Wed Nov 11 2026. No macro, syntax, notation, axiom, sorry.
-/
import Derived.Test.YtjmakjddhbdocaaDoorRows
import GoSem.ClaimSeven
namespace Go.Proofs.YtjmakjddhbdocaaDoor
namespace Rows

/-- THE TIED CARD OF 'laws.FnExactGoodFields'. -/
def fnExactGoodFieldsCard : Claim7 := { stood := { row := fnExactGoodFieldsRow, standIns := [], harness := (true, "5c27ea602c3d10356eebbf22f9b0e0d96d3c0c02301e55174ec2254e0f69026c"), looks := false }, kinds := [], alts := [], laidByText := true, laidKinds := [.data, .pinned], laidTests := true, laidLooks := .later }
def FnExactGoodFieldsCardSaid : Prop := Claim7.holds Tryd.pinned (.plain (OpenSpec.ofChange fnExactGoodFieldsSpec)) fnExactGoodFieldsCard

/-- THE TIED CARD OF 'laws.FnExactFieldOf'. -/
def fnExactFieldOfCard : Claim7 := { stood := { row := fnExactFieldOfRow, standIns := [], harness := (true, "5c27ea602c3d10356eebbf22f9b0e0d96d3c0c02301e55174ec2254e0f69026c"), looks := false }, kinds := [], alts := [], laidByText := true, laidKinds := [.data, .pinned], laidTests := true, laidLooks := .later }
def FnExactFieldOfCardSaid : Prop := Claim7.holds Tryd.pinned (.plain (OpenSpec.ofChange fnExactFieldOfSpec)) fnExactFieldOfCard

/-- THE TIED CARD OF 'laws.FnExactFieldsBytes'. -/
def fnExactFieldsBytesCard : Claim7 := { stood := { row := fnExactFieldsBytesRow, standIns := [], harness := (true, "5c27ea602c3d10356eebbf22f9b0e0d96d3c0c02301e55174ec2254e0f69026c"), looks := false }, kinds := [], alts := [], laidByText := true, laidKinds := [.data, .pinned], laidTests := true, laidLooks := .later }
def FnExactFieldsBytesCardSaid : Prop := Claim7.holds Tryd.pinned (.plain (OpenSpec.ofChange fnExactFieldsBytesSpec)) fnExactFieldsBytesCard

/-- THE SECOND FORM's CARD OF 'laws.FnExactGoodFields'. -/
def fnExactGoodFieldsUptoCard : Claim7 := { stood := { row := fnExactGoodFieldsUptoRow, standIns := [], harness := (true, "5c27ea602c3d10356eebbf22f9b0e0d96d3c0c02301e55174ec2254e0f69026c"), looks := false }, kinds := [], alts := [], laidByText := true, laidKinds := [.data, .pinned], laidTests := true, laidLooks := .later }
def FnExactGoodFieldsUptoCardSaid : Prop := Claim7.holds Tryd.pinned (.plain (OpenSpec.upto fnExactGoodFieldsSpec)) fnExactGoodFieldsUptoCard

/-- THE SECOND FORM's CARD OF 'laws.FnExactFieldOf'. -/
def fnExactFieldOfUptoCard : Claim7 := { stood := { row := fnExactFieldOfUptoRow, standIns := [], harness := (true, "5c27ea602c3d10356eebbf22f9b0e0d96d3c0c02301e55174ec2254e0f69026c"), looks := false }, kinds := [], alts := [], laidByText := true, laidKinds := [.data, .pinned], laidTests := true, laidLooks := .later }
def FnExactFieldOfUptoCardSaid : Prop := Claim7.holds Tryd.pinned (.plain (OpenSpec.upto fnExactFieldOfSpec)) fnExactFieldOfUptoCard

/-- THE SECOND FORM's CARD OF 'laws.FnExactFieldsBytes'. -/
def fnExactFieldsBytesUptoCard : Claim7 := { stood := { row := fnExactFieldsBytesUptoRow, standIns := [], harness := (true, "5c27ea602c3d10356eebbf22f9b0e0d96d3c0c02301e55174ec2254e0f69026c"), looks := false }, kinds := [], alts := [], laidByText := true, laidKinds := [.data, .pinned], laidTests := true, laidLooks := .later }
def FnExactFieldsBytesUptoCardSaid : Prop := Claim7.holds Tryd.pinned (.plain (OpenSpec.upto fnExactFieldsBytesSpec)) fnExactFieldsBytesUptoCard
end Rows
end Go.Proofs.YtjmakjddhbdocaaDoor
