/-
  DERIVED. GIVEN WITH THE SEED: THE CARDS: each row of YtahambloheoebaaGreatDoorRows.lean that lists a variable, with what it lists TIED to the program's text (the seventh form; the later family's looks); each row that meets fmt, with fmt's text TOLD by the authors' own Lean function (tested against real Go, not proved from fmt's source: count such statements apart). THE CARD IS WHAT COUNTS. Prove the row's statement (the work); the ties are given (YtahambloheoebaaGreatDoorTie.lean); close each card by the builder's one call (the guide's Derived/Test/ToyasCard.lean, 'card_holds'). Laid BY PROGRAM, IN A SANDBOX (cutbox-door.mjs). By AI agents, Wed Nov 11 2026. No macro, syntax, notation, axiom, sorry.
-/
import Derived.Test.YtahambloheoebaaGreatDoorRows
import GoSem.ClaimSeven
namespace Go.Proofs.YtahambloheoebaaGreatDoor
namespace Rows

/-- THE TIED CARD OF 'laws.FnAlpha'. -/
def fnAlphaCard : Claim7 := { stood := { row := fnAlphaRow, standIns := [], harness := (true, "0130f3ea755f04c43d671d9178e5035e8d9c4fbca7effa6e4e87807cbcaac2b5"), looks := false }, kinds := [], alts := [], laidByText := true, laidKinds := [.data, .data, .data], laidTests := true, laidLooks := .later }
def FnAlphaCardSaid : Prop := Claim7.holds Tryz.pinned (.plain (OpenSpec.ofChange fnAlphaSpec)) fnAlphaCard

/-- THE TIED CARD OF 'laws.FnExactPrintRules'. -/
def fnExactPrintRulesCard : Claim7 := { stood := { row := fnExactPrintRulesRow, standIns := [], harness := (true, "0130f3ea755f04c43d671d9178e5035e8d9c4fbca7effa6e4e87807cbcaac2b5"), looks := false }, kinds := [], alts := [], laidByText := true, laidKinds := [.data, .data, .data, .widerDeep], laidTests := true, laidLooks := .later }
def FnExactPrintRulesCardSaid : Prop := Claim7.holds Tryz.pinned (.plain (OpenSpec.ofChange fnExactPrintRulesSpec)) fnExactPrintRulesCard

/-- THE TIED CARD OF 'laws.FnExactAlphaNet'. -/
def fnExactAlphaNetCard : Claim7 := { stood := { row := fnExactAlphaNetRow, standIns := [], harness := (true, "0130f3ea755f04c43d671d9178e5035e8d9c4fbca7effa6e4e87807cbcaac2b5"), looks := false }, kinds := [], alts := [], laidByText := true, laidKinds := [.data, .data, .data], laidTests := true, laidLooks := .later }
def FnExactAlphaNetCardSaid : Prop := Claim7.holds Tryz.pinned (.plain (OpenSpec.ofChange fnExactAlphaNetSpec)) fnExactAlphaNetCard

/-- THE SECOND FORM's CARD OF 'laws.FnAlpha'. -/
def fnAlphaUptoCard : Claim7 := { stood := { row := fnAlphaUptoRow, standIns := [], harness := (true, "0130f3ea755f04c43d671d9178e5035e8d9c4fbca7effa6e4e87807cbcaac2b5"), looks := false }, kinds := [], alts := [], laidByText := true, laidKinds := [.data, .data, .data], laidTests := true, laidLooks := .later }
def FnAlphaUptoCardSaid : Prop := Claim7.holds Tryz.pinned (.plain (OpenSpec.upto fnAlphaSpec)) fnAlphaUptoCard

/-- THE SECOND FORM's CARD OF 'laws.FnExactPrintRules'. -/
def fnExactPrintRulesUptoCard : Claim7 := { stood := { row := fnExactPrintRulesUptoRow, standIns := [], harness := (true, "0130f3ea755f04c43d671d9178e5035e8d9c4fbca7effa6e4e87807cbcaac2b5"), looks := false }, kinds := [], alts := [], laidByText := true, laidKinds := [.data, .data, .data, .widerDeep], laidTests := true, laidLooks := .later }
def FnExactPrintRulesUptoCardSaid : Prop := Claim7.holds Tryz.pinned (.plain (OpenSpec.upto fnExactPrintRulesSpec)) fnExactPrintRulesUptoCard

/-- THE SECOND FORM's CARD OF 'laws.FnExactAlphaNet'. -/
def fnExactAlphaNetUptoCard : Claim7 := { stood := { row := fnExactAlphaNetUptoRow, standIns := [], harness := (true, "0130f3ea755f04c43d671d9178e5035e8d9c4fbca7effa6e4e87807cbcaac2b5"), looks := false }, kinds := [], alts := [], laidByText := true, laidKinds := [.data, .data, .data], laidTests := true, laidLooks := .later }
def FnExactAlphaNetUptoCardSaid : Prop := Claim7.holds Tryz.pinned (.plain (OpenSpec.upto fnExactAlphaNetSpec)) fnExactAlphaNetUptoCard
end Rows
end Go.Proofs.YtahambloheoebaaGreatDoor
