/-
  DERIVED. GIVEN WITH THE SEED: THE CARDS: each row of YtneffefnlogkaaaGreatDoorRows.lean that lists a variable, with what it lists TIED to the program's text (the seventh form; the later family's looks); each row that meets fmt, with fmt's text TOLD by the authors' own Lean function (tested against real Go, not proved from fmt's source: count such statements apart). THE CARD IS WHAT COUNTS. Prove the row's statement (the work); the ties are given (YtneffefnlogkaaaGreatDoorTie.lean); close each card by the builder's one call (the guide's Derived/Test/ToyasCard.lean, 'card_holds'). Laid BY PROGRAM, IN A SANDBOX (cutbox-door.mjs). By AI agents, Wed Nov 11 2026. No macro, syntax, notation, axiom, sorry.
-/
import Derived.Test.YtneffefnlogkaaaGreatDoorRows
import GoSem.ClaimSeven
namespace Go.Proofs.YtneffefnlogkaaaGreatDoor
namespace Rows

/-- THE TIED CARD OF 'postbaglaw6.LimbParses'. -/
def limbParsesCard : Claim7 := { stood := { row := limbParsesRow, standIns := [], harness := (true, "a2df57700aa6b97ca39d28f515c977cb23e70df3cbf9e67a7ddce213e000decb"), looks := false }, kinds := [], alts := [], laidByText := true, laidKinds := [.data, .data, .data, .data, .pinned], laidTests := true, laidLooks := .later }
def LimbParsesCardSaid : Prop := Claim7.holds Tryz.pinned (.plain (OpenSpec.ofChange limbParsesSpec)) limbParsesCard

/-- THE TIED CARD OF 'postbaglaw6.LimbBacks'. -/
def limbBacksCard : Claim7 := { stood := { row := limbBacksRow, standIns := [], harness := (true, "a2df57700aa6b97ca39d28f515c977cb23e70df3cbf9e67a7ddce213e000decb"), looks := false }, kinds := [], alts := [], laidByText := true, laidKinds := [.data, .data, .data, .data, .pinned], laidTests := true, laidLooks := .later }
def LimbBacksCardSaid : Prop := Claim7.holds Tryz.pinned (.plain (OpenSpec.ofChange limbBacksSpec)) limbBacksCard

/-- THE TIED CARD OF 'postbaglaw6.LimbLeaves'. -/
def limbLeavesCard : Claim7 := { stood := { row := limbLeavesRow, standIns := [], harness := (true, "a2df57700aa6b97ca39d28f515c977cb23e70df3cbf9e67a7ddce213e000decb"), looks := false }, kinds := [], alts := [], laidByText := true, laidKinds := [.data, .data, .data, .data, .pinned], laidTests := true, laidLooks := .later }
def LimbLeavesCardSaid : Prop := Claim7.holds Tryz.pinned (.plain (OpenSpec.ofChange limbLeavesSpec)) limbLeavesCard

/-- THE TIED CARD OF 'postbaglaw6.LimbFinds'. -/
def limbFindsCard : Claim7 := { stood := { row := limbFindsRow, standIns := [], harness := (true, "a2df57700aa6b97ca39d28f515c977cb23e70df3cbf9e67a7ddce213e000decb"), looks := false }, kinds := [], alts := [], laidByText := true, laidKinds := [.data, .data, .data, .data, .pinned], laidTests := true, laidLooks := .later }
def LimbFindsCardSaid : Prop := Claim7.holds Tryz.pinned (.plain (OpenSpec.ofChange limbFindsSpec)) limbFindsCard

/-- THE TIED CARD OF 'postbaglaw6.LimbSections'. -/
def limbSectionsCard : Claim7 := { stood := { row := limbSectionsRow, standIns := [], harness := (true, "a2df57700aa6b97ca39d28f515c977cb23e70df3cbf9e67a7ddce213e000decb"), looks := false }, kinds := [], alts := [], laidByText := true, laidKinds := [.data, .data, .data, .data, .pinned], laidTests := true, laidLooks := .later }
def LimbSectionsCardSaid : Prop := Claim7.holds Tryz.pinned (.plain (OpenSpec.ofChange limbSectionsSpec)) limbSectionsCard

/-- THE TIED CARD OF 'postbaglaw6.LimbNests'. -/
def limbNestsCard : Claim7 := { stood := { row := limbNestsRow, standIns := [], harness := (true, "a2df57700aa6b97ca39d28f515c977cb23e70df3cbf9e67a7ddce213e000decb"), looks := false }, kinds := [], alts := [], laidByText := true, laidKinds := [.data, .data, .data, .data, .pinned], laidTests := true, laidLooks := .later }
def LimbNestsCardSaid : Prop := Claim7.holds Tryz.pinned (.plain (OpenSpec.ofChange limbNestsSpec)) limbNestsCard

/-- THE TIED CARD OF 'postbaglaw6.LimbPlaces'. -/
def limbPlacesCard : Claim7 := { stood := { row := limbPlacesRow, standIns := [], harness := (true, "a2df57700aa6b97ca39d28f515c977cb23e70df3cbf9e67a7ddce213e000decb"), looks := false }, kinds := [], alts := [], laidByText := true, laidKinds := [.data, .data, .data, .data, .pinned], laidTests := true, laidLooks := .later }
def LimbPlacesCardSaid : Prop := Claim7.holds Tryz.pinned (.plain (OpenSpec.ofChange limbPlacesSpec)) limbPlacesCard

/-- THE TIED CARD OF 'postbaglaw6.LimbStructures'. -/
def limbStructuresCard : Claim7 := { stood := { row := limbStructuresRow, standIns := [], harness := (true, "a2df57700aa6b97ca39d28f515c977cb23e70df3cbf9e67a7ddce213e000decb"), looks := false }, kinds := [], alts := [], laidByText := true, laidKinds := [.data, .data, .data, .data, .pinned], laidTests := true, laidLooks := .later }
def LimbStructuresCardSaid : Prop := Claim7.holds Tryz.pinned (.plain (OpenSpec.ofChange limbStructuresSpec)) limbStructuresCard

/-- THE TIED CARD OF 'postbaglaw6.LimbIsNew'. -/
def limbIsNewCard : Claim7 := { stood := { row := limbIsNewRow, standIns := [], harness := (true, "a2df57700aa6b97ca39d28f515c977cb23e70df3cbf9e67a7ddce213e000decb"), looks := false }, kinds := [], alts := [], laidByText := true, laidKinds := [.data, .data, .data, .data, .pinned], laidTests := true, laidLooks := .later }
def LimbIsNewCardSaid : Prop := Claim7.holds Tryz.pinned (.plain (OpenSpec.ofChange limbIsNewSpec)) limbIsNewCard

/-- THE SECOND FORM's CARD OF 'postbaglaw6.LimbParses'. -/
def limbParsesUptoCard : Claim7 := { stood := { row := limbParsesUptoRow, standIns := [], harness := (true, "a2df57700aa6b97ca39d28f515c977cb23e70df3cbf9e67a7ddce213e000decb"), looks := false }, kinds := [], alts := [], laidByText := true, laidKinds := [.data, .data, .data, .data, .pinned], laidTests := true, laidLooks := .later }
def LimbParsesUptoCardSaid : Prop := Claim7.holds Tryz.pinned (.plain (OpenSpec.upto limbParsesSpec)) limbParsesUptoCard

/-- THE SECOND FORM's CARD OF 'postbaglaw6.LimbBacks'. -/
def limbBacksUptoCard : Claim7 := { stood := { row := limbBacksUptoRow, standIns := [], harness := (true, "a2df57700aa6b97ca39d28f515c977cb23e70df3cbf9e67a7ddce213e000decb"), looks := false }, kinds := [], alts := [], laidByText := true, laidKinds := [.data, .data, .data, .data, .pinned], laidTests := true, laidLooks := .later }
def LimbBacksUptoCardSaid : Prop := Claim7.holds Tryz.pinned (.plain (OpenSpec.upto limbBacksSpec)) limbBacksUptoCard

/-- THE SECOND FORM's CARD OF 'postbaglaw6.LimbLeaves'. -/
def limbLeavesUptoCard : Claim7 := { stood := { row := limbLeavesUptoRow, standIns := [], harness := (true, "a2df57700aa6b97ca39d28f515c977cb23e70df3cbf9e67a7ddce213e000decb"), looks := false }, kinds := [], alts := [], laidByText := true, laidKinds := [.data, .data, .data, .data, .pinned], laidTests := true, laidLooks := .later }
def LimbLeavesUptoCardSaid : Prop := Claim7.holds Tryz.pinned (.plain (OpenSpec.upto limbLeavesSpec)) limbLeavesUptoCard

/-- THE SECOND FORM's CARD OF 'postbaglaw6.LimbFinds'. -/
def limbFindsUptoCard : Claim7 := { stood := { row := limbFindsUptoRow, standIns := [], harness := (true, "a2df57700aa6b97ca39d28f515c977cb23e70df3cbf9e67a7ddce213e000decb"), looks := false }, kinds := [], alts := [], laidByText := true, laidKinds := [.data, .data, .data, .data, .pinned], laidTests := true, laidLooks := .later }
def LimbFindsUptoCardSaid : Prop := Claim7.holds Tryz.pinned (.plain (OpenSpec.upto limbFindsSpec)) limbFindsUptoCard

/-- THE SECOND FORM's CARD OF 'postbaglaw6.LimbSections'. -/
def limbSectionsUptoCard : Claim7 := { stood := { row := limbSectionsUptoRow, standIns := [], harness := (true, "a2df57700aa6b97ca39d28f515c977cb23e70df3cbf9e67a7ddce213e000decb"), looks := false }, kinds := [], alts := [], laidByText := true, laidKinds := [.data, .data, .data, .data, .pinned], laidTests := true, laidLooks := .later }
def LimbSectionsUptoCardSaid : Prop := Claim7.holds Tryz.pinned (.plain (OpenSpec.upto limbSectionsSpec)) limbSectionsUptoCard

/-- THE SECOND FORM's CARD OF 'postbaglaw6.LimbNests'. -/
def limbNestsUptoCard : Claim7 := { stood := { row := limbNestsUptoRow, standIns := [], harness := (true, "a2df57700aa6b97ca39d28f515c977cb23e70df3cbf9e67a7ddce213e000decb"), looks := false }, kinds := [], alts := [], laidByText := true, laidKinds := [.data, .data, .data, .data, .pinned], laidTests := true, laidLooks := .later }
def LimbNestsUptoCardSaid : Prop := Claim7.holds Tryz.pinned (.plain (OpenSpec.upto limbNestsSpec)) limbNestsUptoCard

/-- THE SECOND FORM's CARD OF 'postbaglaw6.LimbPlaces'. -/
def limbPlacesUptoCard : Claim7 := { stood := { row := limbPlacesUptoRow, standIns := [], harness := (true, "a2df57700aa6b97ca39d28f515c977cb23e70df3cbf9e67a7ddce213e000decb"), looks := false }, kinds := [], alts := [], laidByText := true, laidKinds := [.data, .data, .data, .data, .pinned], laidTests := true, laidLooks := .later }
def LimbPlacesUptoCardSaid : Prop := Claim7.holds Tryz.pinned (.plain (OpenSpec.upto limbPlacesSpec)) limbPlacesUptoCard

/-- THE SECOND FORM's CARD OF 'postbaglaw6.LimbStructures'. -/
def limbStructuresUptoCard : Claim7 := { stood := { row := limbStructuresUptoRow, standIns := [], harness := (true, "a2df57700aa6b97ca39d28f515c977cb23e70df3cbf9e67a7ddce213e000decb"), looks := false }, kinds := [], alts := [], laidByText := true, laidKinds := [.data, .data, .data, .data, .pinned], laidTests := true, laidLooks := .later }
def LimbStructuresUptoCardSaid : Prop := Claim7.holds Tryz.pinned (.plain (OpenSpec.upto limbStructuresSpec)) limbStructuresUptoCard

/-- THE SECOND FORM's CARD OF 'postbaglaw6.LimbIsNew'. -/
def limbIsNewUptoCard : Claim7 := { stood := { row := limbIsNewUptoRow, standIns := [], harness := (true, "a2df57700aa6b97ca39d28f515c977cb23e70df3cbf9e67a7ddce213e000decb"), looks := false }, kinds := [], alts := [], laidByText := true, laidKinds := [.data, .data, .data, .data, .pinned], laidTests := true, laidLooks := .later }
def LimbIsNewUptoCardSaid : Prop := Claim7.holds Tryz.pinned (.plain (OpenSpec.upto limbIsNewSpec)) limbIsNewUptoCard
end Rows
end Go.Proofs.YtneffefnlogkaaaGreatDoor
