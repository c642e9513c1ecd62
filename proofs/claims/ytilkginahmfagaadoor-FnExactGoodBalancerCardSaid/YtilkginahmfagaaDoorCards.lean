/-
  DERIVED. GIVEN WITH THE SEED: THE CARDS: each row of YtilkginahmfagaaDoorRows.lean that lists a variable, with what it lists TIED to the program's text (the seventh form; the later family's looks); each row that meets fmt, with fmt's text TOLD by the authors' own Lean function (tested against real Go, not proved from fmt's source: count such statements apart). THE CARD IS WHAT COUNTS. Prove the row's statement (the work); the ties are given (YtilkginahmfagaaDoorTie.lean); close each card by the builder's one call (the guide's Derived/Test/ToyasCard.lean, 'card_holds'). Laid BY PROGRAM, IN A SANDBOX (cutbox-door.mjs). By AI agents, Wed Nov 11 2026. No macro, syntax, notation, axiom, sorry.
-/
import Derived.Test.YtilkginahmfagaaDoorRows
import GoSem.ClaimSeven
namespace Go.Proofs.YtilkginahmfagaaDoor
namespace Rows

/-- THE TIED CARD OF 'laws.FnExactGoodBalancer'. -/
def fnExactGoodBalancerCard : Claim7 := { stood := { row := fnExactGoodBalancerRow, standIns := [], harness := (true, "c9ba94135ccd439a29e558186fa4d8a0a7e330cb964a2a6097a9ad508aba3a6a"), looks := true }, kinds := [], alts := [], laidByText := true, laidKinds := [.data, .pinned], laidTests := true, laidLooks := .later }
def FnExactGoodBalancerCardSaid : Prop := Claim7.holds Tryd.pinned (.plain (OpenSpec.ofChange fnExactGoodBalancerSpec)) fnExactGoodBalancerCard

/-- THE TIED CARD OF 'laws.FnExactReadFields'. -/
def fnExactReadFieldsCard : Claim7 := { stood := { row := fnExactReadFieldsRow, standIns := [], harness := (true, "c9ba94135ccd439a29e558186fa4d8a0a7e330cb964a2a6097a9ad508aba3a6a"), looks := true }, kinds := [], alts := [], laidByText := true, laidKinds := [.data, .pinned], laidTests := true, laidLooks := .later }
def FnExactReadFieldsCardSaid : Prop := Claim7.holds Tryd.pinned (.plain (OpenSpec.ofChange fnExactReadFieldsSpec)) fnExactReadFieldsCard

/-- THE TIED CARD OF 'laws.FnExactParseTarget'. -/
def fnExactParseTargetCard : Claim7 := { stood := { row := fnExactParseTargetRow, standIns := [], harness := (true, "c9ba94135ccd439a29e558186fa4d8a0a7e330cb964a2a6097a9ad508aba3a6a"), looks := true }, kinds := [], alts := [], laidByText := true, laidKinds := [.data, .data, .data, .sentinel, .sentinel], laidTests := true, laidLooks := .later }
def FnExactParseTargetCardSaid : Prop := Claim7.holds Tryd.pinned (.plain (OpenSpec.ofChange fnExactParseTargetSpec)) fnExactParseTargetCard

/-- THE TIED CARD OF 'laws.FnExactDrainBackend'. -/
def fnExactDrainBackendCard : Claim7 := { stood := { row := fnExactDrainBackendRow, standIns := [], harness := (true, "c9ba94135ccd439a29e558186fa4d8a0a7e330cb964a2a6097a9ad508aba3a6a"), looks := true }, kinds := [], alts := [], laidByText := true, laidKinds := [.data, .pinned], laidTests := true, laidLooks := .later }
def FnExactDrainBackendCardSaid : Prop := Claim7.holds Tryd.pinned (.plain (OpenSpec.ofChange fnExactDrainBackendSpec)) fnExactDrainBackendCard

/-- THE SECOND FORM's CARD OF 'laws.FnExactGoodBalancer'. -/
def fnExactGoodBalancerUptoCard : Claim7 := { stood := { row := fnExactGoodBalancerUptoRow, standIns := [], harness := (true, "c9ba94135ccd439a29e558186fa4d8a0a7e330cb964a2a6097a9ad508aba3a6a"), looks := true }, kinds := [], alts := [], laidByText := true, laidKinds := [.data, .pinned], laidTests := true, laidLooks := .later }
def FnExactGoodBalancerUptoCardSaid : Prop := Claim7.holds Tryd.pinned (.plain (OpenSpec.upto fnExactGoodBalancerSpec)) fnExactGoodBalancerUptoCard

/-- THE SECOND FORM's CARD OF 'laws.FnExactReadFields'. -/
def fnExactReadFieldsUptoCard : Claim7 := { stood := { row := fnExactReadFieldsUptoRow, standIns := [], harness := (true, "c9ba94135ccd439a29e558186fa4d8a0a7e330cb964a2a6097a9ad508aba3a6a"), looks := true }, kinds := [], alts := [], laidByText := true, laidKinds := [.data, .pinned], laidTests := true, laidLooks := .later }
def FnExactReadFieldsUptoCardSaid : Prop := Claim7.holds Tryd.pinned (.plain (OpenSpec.upto fnExactReadFieldsSpec)) fnExactReadFieldsUptoCard

/-- THE SECOND FORM's CARD OF 'laws.FnExactParseTarget'. -/
def fnExactParseTargetUptoCard : Claim7 := { stood := { row := fnExactParseTargetUptoRow, standIns := [], harness := (true, "c9ba94135ccd439a29e558186fa4d8a0a7e330cb964a2a6097a9ad508aba3a6a"), looks := true }, kinds := [], alts := [], laidByText := true, laidKinds := [.data, .data, .data, .sentinel, .sentinel], laidTests := true, laidLooks := .later }
def FnExactParseTargetUptoCardSaid : Prop := Claim7.holds Tryd.pinned (.plain (OpenSpec.upto fnExactParseTargetSpec)) fnExactParseTargetUptoCard

/-- THE SECOND FORM's CARD OF 'laws.FnExactDrainBackend'. -/
def fnExactDrainBackendUptoCard : Claim7 := { stood := { row := fnExactDrainBackendUptoRow, standIns := [], harness := (true, "c9ba94135ccd439a29e558186fa4d8a0a7e330cb964a2a6097a9ad508aba3a6a"), looks := true }, kinds := [], alts := [], laidByText := true, laidKinds := [.data, .pinned], laidTests := true, laidLooks := .later }
def FnExactDrainBackendUptoCardSaid : Prop := Claim7.holds Tryd.pinned (.plain (OpenSpec.upto fnExactDrainBackendSpec)) fnExactDrainBackendUptoCard
end Rows
end Go.Proofs.YtilkginahmfagaaDoor
