/-
  DERIVED. GIVEN WITH THE SEED: THE CARDS: each row of YtneffefnlogkaaaDoorRows.lean that lists a variable, with what it lists TIED to the program's text (the seventh form; the later family's looks); each row that meets fmt, with fmt's text TOLD by the authors' own Lean function (tested against real Go, not proved from fmt's source: count such statements apart). THE CARD IS WHAT COUNTS. Prove the row's statement (the work); the ties are given (YtneffefnlogkaaaDoorTie.lean); close each card by the builder's one call (the guide's Derived/Test/ToyasCard.lean, 'card_holds'). Laid BY PROGRAM, IN A SANDBOX (cutbox-door.mjs). By AI agents, Wed Nov 11 2026. No macro, syntax, notation, axiom, sorry.
-/
import Derived.Test.YtneffefnlogkaaaDoorRows
import GoSem.ClaimSeven
namespace Go.Proofs.YtneffefnlogkaaaDoor
namespace Rows

/-- THE TIED CARD OF 'postbaglaw6.LimbHoldsTogether'. -/
def limbHoldsTogetherCard : Claim7 := { stood := { row := limbHoldsTogetherRow, standIns := [], harness := (true, "9f67d3dd453aa420a37e653578e683792bbef70a9f37a7a0b613ff9589bda05a"), looks := false }, kinds := [], alts := [], laidByText := true, laidKinds := [.data, .data, .data, .data, .pinned], laidTests := true, laidLooks := .later }
def LimbHoldsTogetherCardSaid : Prop := Claim7.holds Tryd.pinned (.plain (OpenSpec.ofChange limbHoldsTogetherSpec)) limbHoldsTogetherCard

/-- THE TIED CARD OF 'postbaglaw6.LimbSeams'. -/
def limbSeamsCard : Claim7 := { stood := { row := limbSeamsRow, standIns := [], harness := (true, "9f67d3dd453aa420a37e653578e683792bbef70a9f37a7a0b613ff9589bda05a"), looks := false }, kinds := [], alts := [], laidByText := true, laidKinds := [.data, .data, .data, .data, .pinned], laidTests := true, laidLooks := .later }
def LimbSeamsCardSaid : Prop := Claim7.holds Tryd.pinned (.plain (OpenSpec.ofChange limbSeamsSpec)) limbSeamsCard

/-- THE TIED CARD OF 'postbaglaw6.LimbMultiparts'. -/
def limbMultipartsCard : Claim7 := { stood := { row := limbMultipartsRow, standIns := [], harness := (true, "9f67d3dd453aa420a37e653578e683792bbef70a9f37a7a0b613ff9589bda05a"), looks := false }, kinds := [], alts := [], laidByText := true, laidKinds := [.data, .data, .data, .data, .pinned], laidTests := true, laidLooks := .later }
def LimbMultipartsCardSaid : Prop := Claim7.holds Tryd.pinned (.plain (OpenSpec.ofChange limbMultipartsSpec)) limbMultipartsCard

/-- THE SECOND FORM's CARD OF 'postbaglaw6.LimbHoldsTogether'. -/
def limbHoldsTogetherUptoCard : Claim7 := { stood := { row := limbHoldsTogetherUptoRow, standIns := [], harness := (true, "9f67d3dd453aa420a37e653578e683792bbef70a9f37a7a0b613ff9589bda05a"), looks := false }, kinds := [], alts := [], laidByText := true, laidKinds := [.data, .data, .data, .data, .pinned], laidTests := true, laidLooks := .later }
def LimbHoldsTogetherUptoCardSaid : Prop := Claim7.holds Tryd.pinned (.plain (OpenSpec.upto limbHoldsTogetherSpec)) limbHoldsTogetherUptoCard

/-- THE SECOND FORM's CARD OF 'postbaglaw6.LimbSeams'. -/
def limbSeamsUptoCard : Claim7 := { stood := { row := limbSeamsUptoRow, standIns := [], harness := (true, "9f67d3dd453aa420a37e653578e683792bbef70a9f37a7a0b613ff9589bda05a"), looks := false }, kinds := [], alts := [], laidByText := true, laidKinds := [.data, .data, .data, .data, .pinned], laidTests := true, laidLooks := .later }
def LimbSeamsUptoCardSaid : Prop := Claim7.holds Tryd.pinned (.plain (OpenSpec.upto limbSeamsSpec)) limbSeamsUptoCard

/-- THE SECOND FORM's CARD OF 'postbaglaw6.LimbMultiparts'. -/
def limbMultipartsUptoCard : Claim7 := { stood := { row := limbMultipartsUptoRow, standIns := [], harness := (true, "9f67d3dd453aa420a37e653578e683792bbef70a9f37a7a0b613ff9589bda05a"), looks := false }, kinds := [], alts := [], laidByText := true, laidKinds := [.data, .data, .data, .data, .pinned], laidTests := true, laidLooks := .later }
def LimbMultipartsUptoCardSaid : Prop := Claim7.holds Tryd.pinned (.plain (OpenSpec.upto limbMultipartsSpec)) limbMultipartsUptoCard
end Rows
end Go.Proofs.YtneffefnlogkaaaDoor
