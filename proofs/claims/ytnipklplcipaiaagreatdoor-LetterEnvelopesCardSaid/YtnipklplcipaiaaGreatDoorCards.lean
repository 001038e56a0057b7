/-
  DERIVED. GIVEN WITH THE SEED: THE CARDS: each row of YtnipklplcipaiaaGreatDoorRows.lean that lists a variable, with what it lists TIED to the program's text (the seventh form; the later family's looks); each row that meets fmt, with fmt's text TOLD by the authors' own Lean function (tested against real Go, not proved from fmt's source: count such statements apart). THE CARD IS WHAT COUNTS. Prove the row's statement (the work); the ties are given (YtnipklplcipaiaaGreatDoorTie.lean); close each card by the builder's one call (the guide's Derived/Test/ToyasCard.lean, 'card_holds'). Laid BY PROGRAM, IN A SANDBOX (cutbox-door.mjs). By AI agents, Wed Nov 11 2026. No macro, syntax, notation, axiom, sorry.
-/
import Derived.Test.YtnipklplcipaiaaGreatDoorRows
import GoSem.ClaimSeven
namespace Go.Proofs.YtnipklplcipaiaaGreatDoor
namespace Rows

/-- THE TIED CARD OF 'postbaglaw5.LetterFields'. -/
def letterFieldsCard : Claim7 := { stood := { row := letterFieldsRow, standIns := [], harness := (true, "5a5df9c5664acee3dcb1bb804a48cb2e2d8501aa6a2b68120ca984c154c2e140"), looks := false }, kinds := [], alts := [], laidByText := true, laidKinds := [.data, .pinned], laidTests := true, laidLooks := .later }
def LetterFieldsCardSaid : Prop := Claim7.holds Tryz.pinned (.plain (OpenSpec.ofChange letterFieldsSpec)) letterFieldsCard

/-- THE TIED CARD OF 'postbaglaw5.LetterPicks'. -/
def letterPicksCard : Claim7 := { stood := { row := letterPicksRow, standIns := [], harness := (true, "5a5df9c5664acee3dcb1bb804a48cb2e2d8501aa6a2b68120ca984c154c2e140"), looks := false }, kinds := [], alts := [], laidByText := true, laidKinds := [.data, .pinned], laidTests := true, laidLooks := .later }
def LetterPicksCardSaid : Prop := Claim7.holds Tryz.pinned (.plain (OpenSpec.ofChange letterPicksSpec)) letterPicksCard

/-- THE TIED CARD OF 'postbaglaw5.LetterWords'. -/
def letterWordsCard : Claim7 := { stood := { row := letterWordsRow, standIns := [], harness := (true, "5a5df9c5664acee3dcb1bb804a48cb2e2d8501aa6a2b68120ca984c154c2e140"), looks := false }, kinds := [], alts := [], laidByText := true, laidKinds := [.data, .pinned], laidTests := true, laidLooks := .later }
def LetterWordsCardSaid : Prop := Claim7.holds Tryz.pinned (.plain (OpenSpec.ofChange letterWordsSpec)) letterWordsCard

/-- THE TIED CARD OF 'postbaglaw5.LetterAddresses'. -/
def letterAddressesCard : Claim7 := { stood := { row := letterAddressesRow, standIns := [], harness := (true, "5a5df9c5664acee3dcb1bb804a48cb2e2d8501aa6a2b68120ca984c154c2e140"), looks := false }, kinds := [], alts := [], laidByText := true, laidKinds := [.data, .pinned], laidTests := true, laidLooks := .later }
def LetterAddressesCardSaid : Prop := Claim7.holds Tryz.pinned (.plain (OpenSpec.ofChange letterAddressesSpec)) letterAddressesCard

/-- THE TIED CARD OF 'postbaglaw5.LetterIds'. -/
def letterIdsCard : Claim7 := { stood := { row := letterIdsRow, standIns := [], harness := (true, "5a5df9c5664acee3dcb1bb804a48cb2e2d8501aa6a2b68120ca984c154c2e140"), looks := false }, kinds := [], alts := [], laidByText := true, laidKinds := [.data, .pinned], laidTests := true, laidLooks := .later }
def LetterIdsCardSaid : Prop := Claim7.holds Tryz.pinned (.plain (OpenSpec.ofChange letterIdsSpec)) letterIdsCard

/-- THE TIED CARD OF 'postbaglaw5.LetterBases'. -/
def letterBasesCard : Claim7 := { stood := { row := letterBasesRow, standIns := [], harness := (true, "5a5df9c5664acee3dcb1bb804a48cb2e2d8501aa6a2b68120ca984c154c2e140"), looks := false }, kinds := [], alts := [], laidByText := true, laidKinds := [.data, .pinned], laidTests := true, laidLooks := .later }
def LetterBasesCardSaid : Prop := Claim7.holds Tryz.pinned (.plain (OpenSpec.ofChange letterBasesSpec)) letterBasesCard

/-- THE TIED CARD OF 'postbaglaw5.LetterEnvelopes'. -/
def letterEnvelopesCard : Claim7 := { stood := { row := letterEnvelopesRow, standIns := [], harness := (true, "5a5df9c5664acee3dcb1bb804a48cb2e2d8501aa6a2b68120ca984c154c2e140"), looks := false }, kinds := [], alts := [], laidByText := true, laidKinds := [.data, .pinned], laidTests := true, laidLooks := .later }
def LetterEnvelopesCardSaid : Prop := Claim7.holds Tryz.pinned (.plain (OpenSpec.ofChange letterEnvelopesSpec)) letterEnvelopesCard

/-- THE TIED CARD OF 'postbaglaw5.LetterKeeps'. -/
def letterKeepsCard : Claim7 := { stood := { row := letterKeepsRow, standIns := [], harness := (true, "5a5df9c5664acee3dcb1bb804a48cb2e2d8501aa6a2b68120ca984c154c2e140"), looks := false }, kinds := [], alts := [], laidByText := true, laidKinds := [.data, .pinned], laidTests := true, laidLooks := .later }
def LetterKeepsCardSaid : Prop := Claim7.holds Tryz.pinned (.plain (OpenSpec.ofChange letterKeepsSpec)) letterKeepsCard

/-- THE SECOND FORM's CARD OF 'postbaglaw5.LetterFields'. -/
def letterFieldsUptoCard : Claim7 := { stood := { row := letterFieldsUptoRow, standIns := [], harness := (true, "5a5df9c5664acee3dcb1bb804a48cb2e2d8501aa6a2b68120ca984c154c2e140"), looks := false }, kinds := [], alts := [], laidByText := true, laidKinds := [.data, .pinned], laidTests := true, laidLooks := .later }
def LetterFieldsUptoCardSaid : Prop := Claim7.holds Tryz.pinned (.plain (OpenSpec.upto letterFieldsSpec)) letterFieldsUptoCard

/-- THE SECOND FORM's CARD OF 'postbaglaw5.LetterPicks'. -/
def letterPicksUptoCard : Claim7 := { stood := { row := letterPicksUptoRow, standIns := [], harness := (true, "5a5df9c5664acee3dcb1bb804a48cb2e2d8501aa6a2b68120ca984c154c2e140"), looks := false }, kinds := [], alts := [], laidByText := true, laidKinds := [.data, .pinned], laidTests := true, laidLooks := .later }
def LetterPicksUptoCardSaid : Prop := Claim7.holds Tryz.pinned (.plain (OpenSpec.upto letterPicksSpec)) letterPicksUptoCard

/-- THE SECOND FORM's CARD OF 'postbaglaw5.LetterWords'. -/
def letterWordsUptoCard : Claim7 := { stood := { row := letterWordsUptoRow, standIns := [], harness := (true, "5a5df9c5664acee3dcb1bb804a48cb2e2d8501aa6a2b68120ca984c154c2e140"), looks := false }, kinds := [], alts := [], laidByText := true, laidKinds := [.data, .pinned], laidTests := true, laidLooks := .later }
def LetterWordsUptoCardSaid : Prop := Claim7.holds Tryz.pinned (.plain (OpenSpec.upto letterWordsSpec)) letterWordsUptoCard

/-- THE SECOND FORM's CARD OF 'postbaglaw5.LetterAddresses'. -/
def letterAddressesUptoCard : Claim7 := { stood := { row := letterAddressesUptoRow, standIns := [], harness := (true, "5a5df9c5664acee3dcb1bb804a48cb2e2d8501aa6a2b68120ca984c154c2e140"), looks := false }, kinds := [], alts := [], laidByText := true, laidKinds := [.data, .pinned], laidTests := true, laidLooks := .later }
def LetterAddressesUptoCardSaid : Prop := Claim7.holds Tryz.pinned (.plain (OpenSpec.upto letterAddressesSpec)) letterAddressesUptoCard

/-- THE SECOND FORM's CARD OF 'postbaglaw5.LetterIds'. -/
def letterIdsUptoCard : Claim7 := { stood := { row := letterIdsUptoRow, standIns := [], harness := (true, "5a5df9c5664acee3dcb1bb804a48cb2e2d8501aa6a2b68120ca984c154c2e140"), looks := false }, kinds := [], alts := [], laidByText := true, laidKinds := [.data, .pinned], laidTests := true, laidLooks := .later }
def LetterIdsUptoCardSaid : Prop := Claim7.holds Tryz.pinned (.plain (OpenSpec.upto letterIdsSpec)) letterIdsUptoCard

/-- THE SECOND FORM's CARD OF 'postbaglaw5.LetterBases'. -/
def letterBasesUptoCard : Claim7 := { stood := { row := letterBasesUptoRow, standIns := [], harness := (true, "5a5df9c5664acee3dcb1bb804a48cb2e2d8501aa6a2b68120ca984c154c2e140"), looks := false }, kinds := [], alts := [], laidByText := true, laidKinds := [.data, .pinned], laidTests := true, laidLooks := .later }
def LetterBasesUptoCardSaid : Prop := Claim7.holds Tryz.pinned (.plain (OpenSpec.upto letterBasesSpec)) letterBasesUptoCard

/-- THE SECOND FORM's CARD OF 'postbaglaw5.LetterEnvelopes'. -/
def letterEnvelopesUptoCard : Claim7 := { stood := { row := letterEnvelopesUptoRow, standIns := [], harness := (true, "5a5df9c5664acee3dcb1bb804a48cb2e2d8501aa6a2b68120ca984c154c2e140"), looks := false }, kinds := [], alts := [], laidByText := true, laidKinds := [.data, .pinned], laidTests := true, laidLooks := .later }
def LetterEnvelopesUptoCardSaid : Prop := Claim7.holds Tryz.pinned (.plain (OpenSpec.upto letterEnvelopesSpec)) letterEnvelopesUptoCard

/-- THE SECOND FORM's CARD OF 'postbaglaw5.LetterKeeps'. -/
def letterKeepsUptoCard : Claim7 := { stood := { row := letterKeepsUptoRow, standIns := [], harness := (true, "5a5df9c5664acee3dcb1bb804a48cb2e2d8501aa6a2b68120ca984c154c2e140"), looks := false }, kinds := [], alts := [], laidByText := true, laidKinds := [.data, .pinned], laidTests := true, laidLooks := .later }
def LetterKeepsUptoCardSaid : Prop := Claim7.holds Tryz.pinned (.plain (OpenSpec.upto letterKeepsSpec)) letterKeepsUptoCard
end Rows
end Go.Proofs.YtnipklplcipaiaaGreatDoor
