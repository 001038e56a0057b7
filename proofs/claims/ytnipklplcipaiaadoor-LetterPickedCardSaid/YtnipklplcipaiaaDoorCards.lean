/-
  DERIVED. GIVEN WITH THE SEED: THE CARDS: each row of YtnipklplcipaiaaDoorRows.lean that lists a variable, with what it lists TIED to the program's text (the seventh form; the later family's looks); each row that meets fmt, with fmt's text TOLD by the authors' own Lean function (tested against real Go, not proved from fmt's source: count such statements apart). THE CARD IS WHAT COUNTS. Prove the row's statement (the work); the ties are given (YtnipklplcipaiaaDoorTie.lean); close each card by the builder's one call (the guide's Derived/Test/ToyasCard.lean, 'card_holds'). Laid BY PROGRAM, IN A SANDBOX (cutbox-door.mjs). By AI agents, Wed Nov 11 2026. No macro, syntax, notation, axiom, sorry.
-/
import Derived.Test.YtnipklplcipaiaaDoorRows
import GoSem.ClaimSeven
namespace Go.Proofs.YtnipklplcipaiaaDoor
namespace Rows

/-- THE TIED CARD OF 'postbaglaw5.LetterSplits'. -/
def letterSplitsCard : Claim7 := { stood := { row := letterSplitsRow, standIns := [], harness := (true, "5f3d31b9af14ae650868d697c8ddd159bbdeb1edad23e94cc6313040681d760d"), looks := false }, kinds := [], alts := [], laidByText := true, laidKinds := [.data, .pinned], laidTests := true, laidLooks := .later }
def LetterSplitsCardSaid : Prop := Claim7.holds Tryd.pinned (.plain (OpenSpec.ofChange letterSplitsSpec)) letterSplitsCard

/-- THE TIED CARD OF 'postbaglaw5.LetterGets'. -/
def letterGetsCard : Claim7 := { stood := { row := letterGetsRow, standIns := [], harness := (true, "5f3d31b9af14ae650868d697c8ddd159bbdeb1edad23e94cc6313040681d760d"), looks := false }, kinds := [], alts := [], laidByText := true, laidKinds := [.data, .pinned], laidTests := true, laidLooks := .later }
def LetterGetsCardSaid : Prop := Claim7.holds Tryd.pinned (.plain (OpenSpec.ofChange letterGetsSpec)) letterGetsCard

/-- THE TIED CARD OF 'postbaglaw5.LetterJoined'. -/
def letterJoinedCard : Claim7 := { stood := { row := letterJoinedRow, standIns := [], harness := (true, "5f3d31b9af14ae650868d697c8ddd159bbdeb1edad23e94cc6313040681d760d"), looks := false }, kinds := [], alts := [], laidByText := true, laidKinds := [.data, .pinned], laidTests := true, laidLooks := .later }
def LetterJoinedCardSaid : Prop := Claim7.holds Tryd.pinned (.plain (OpenSpec.ofChange letterJoinedSpec)) letterJoinedCard

/-- THE TIED CARD OF 'postbaglaw5.LetterPicked'. -/
def letterPickedCard : Claim7 := { stood := { row := letterPickedRow, standIns := [], harness := (true, "5f3d31b9af14ae650868d697c8ddd159bbdeb1edad23e94cc6313040681d760d"), looks := false }, kinds := [], alts := [], laidByText := true, laidKinds := [.data, .pinned], laidTests := true, laidLooks := .later }
def LetterPickedCardSaid : Prop := Claim7.holds Tryd.pinned (.plain (OpenSpec.ofChange letterPickedSpec)) letterPickedCard

/-- THE TIED CARD OF 'postbaglaw5.LetterWorded'. -/
def letterWordedCard : Claim7 := { stood := { row := letterWordedRow, standIns := [], harness := (true, "5f3d31b9af14ae650868d697c8ddd159bbdeb1edad23e94cc6313040681d760d"), looks := false }, kinds := [], alts := [], laidByText := true, laidKinds := [.data, .pinned], laidTests := true, laidLooks := .later }
def LetterWordedCardSaid : Prop := Claim7.holds Tryd.pinned (.plain (OpenSpec.ofChange letterWordedSpec)) letterWordedCard

/-- THE TIED CARD OF 'postbaglaw5.LetterBased'. -/
def letterBasedCard : Claim7 := { stood := { row := letterBasedRow, standIns := [], harness := (true, "5f3d31b9af14ae650868d697c8ddd159bbdeb1edad23e94cc6313040681d760d"), looks := false }, kinds := [], alts := [], laidByText := true, laidKinds := [.data, .pinned], laidTests := true, laidLooks := .later }
def LetterBasedCardSaid : Prop := Claim7.holds Tryd.pinned (.plain (OpenSpec.ofChange letterBasedSpec)) letterBasedCard

/-- THE TIED CARD OF 'postbaglaw5.LetterGroups'. -/
def letterGroupsCard : Claim7 := { stood := { row := letterGroupsRow, standIns := [], harness := (true, "5f3d31b9af14ae650868d697c8ddd159bbdeb1edad23e94cc6313040681d760d"), looks := false }, kinds := [], alts := [], laidByText := true, laidKinds := [.data, .pinned], laidTests := true, laidLooks := .later }
def LetterGroupsCardSaid : Prop := Claim7.holds Tryd.pinned (.plain (OpenSpec.ofChange letterGroupsSpec)) letterGroupsCard

/-- THE TIED CARD OF 'postbaglaw5.LetterSaid'. -/
def letterSaidCard : Claim7 := { stood := { row := letterSaidRow, standIns := [], harness := (true, "5f3d31b9af14ae650868d697c8ddd159bbdeb1edad23e94cc6313040681d760d"), looks := false }, kinds := [], alts := [], laidByText := true, laidKinds := [.data, .pinned], laidTests := true, laidLooks := .later }
def LetterSaidCardSaid : Prop := Claim7.holds Tryd.pinned (.plain (OpenSpec.ofChange letterSaidSpec)) letterSaidCard

/-- THE SECOND FORM's CARD OF 'postbaglaw5.LetterSplits'. -/
def letterSplitsUptoCard : Claim7 := { stood := { row := letterSplitsUptoRow, standIns := [], harness := (true, "5f3d31b9af14ae650868d697c8ddd159bbdeb1edad23e94cc6313040681d760d"), looks := false }, kinds := [], alts := [], laidByText := true, laidKinds := [.data, .pinned], laidTests := true, laidLooks := .later }
def LetterSplitsUptoCardSaid : Prop := Claim7.holds Tryd.pinned (.plain (OpenSpec.upto letterSplitsSpec)) letterSplitsUptoCard

/-- THE SECOND FORM's CARD OF 'postbaglaw5.LetterGets'. -/
def letterGetsUptoCard : Claim7 := { stood := { row := letterGetsUptoRow, standIns := [], harness := (true, "5f3d31b9af14ae650868d697c8ddd159bbdeb1edad23e94cc6313040681d760d"), looks := false }, kinds := [], alts := [], laidByText := true, laidKinds := [.data, .pinned], laidTests := true, laidLooks := .later }
def LetterGetsUptoCardSaid : Prop := Claim7.holds Tryd.pinned (.plain (OpenSpec.upto letterGetsSpec)) letterGetsUptoCard

/-- THE SECOND FORM's CARD OF 'postbaglaw5.LetterJoined'. -/
def letterJoinedUptoCard : Claim7 := { stood := { row := letterJoinedUptoRow, standIns := [], harness := (true, "5f3d31b9af14ae650868d697c8ddd159bbdeb1edad23e94cc6313040681d760d"), looks := false }, kinds := [], alts := [], laidByText := true, laidKinds := [.data, .pinned], laidTests := true, laidLooks := .later }
def LetterJoinedUptoCardSaid : Prop := Claim7.holds Tryd.pinned (.plain (OpenSpec.upto letterJoinedSpec)) letterJoinedUptoCard

/-- THE SECOND FORM's CARD OF 'postbaglaw5.LetterPicked'. -/
def letterPickedUptoCard : Claim7 := { stood := { row := letterPickedUptoRow, standIns := [], harness := (true, "5f3d31b9af14ae650868d697c8ddd159bbdeb1edad23e94cc6313040681d760d"), looks := false }, kinds := [], alts := [], laidByText := true, laidKinds := [.data, .pinned], laidTests := true, laidLooks := .later }
def LetterPickedUptoCardSaid : Prop := Claim7.holds Tryd.pinned (.plain (OpenSpec.upto letterPickedSpec)) letterPickedUptoCard

/-- THE SECOND FORM's CARD OF 'postbaglaw5.LetterWorded'. -/
def letterWordedUptoCard : Claim7 := { stood := { row := letterWordedUptoRow, standIns := [], harness := (true, "5f3d31b9af14ae650868d697c8ddd159bbdeb1edad23e94cc6313040681d760d"), looks := false }, kinds := [], alts := [], laidByText := true, laidKinds := [.data, .pinned], laidTests := true, laidLooks := .later }
def LetterWordedUptoCardSaid : Prop := Claim7.holds Tryd.pinned (.plain (OpenSpec.upto letterWordedSpec)) letterWordedUptoCard

/-- THE SECOND FORM's CARD OF 'postbaglaw5.LetterBased'. -/
def letterBasedUptoCard : Claim7 := { stood := { row := letterBasedUptoRow, standIns := [], harness := (true, "5f3d31b9af14ae650868d697c8ddd159bbdeb1edad23e94cc6313040681d760d"), looks := false }, kinds := [], alts := [], laidByText := true, laidKinds := [.data, .pinned], laidTests := true, laidLooks := .later }
def LetterBasedUptoCardSaid : Prop := Claim7.holds Tryd.pinned (.plain (OpenSpec.upto letterBasedSpec)) letterBasedUptoCard

/-- THE SECOND FORM's CARD OF 'postbaglaw5.LetterGroups'. -/
def letterGroupsUptoCard : Claim7 := { stood := { row := letterGroupsUptoRow, standIns := [], harness := (true, "5f3d31b9af14ae650868d697c8ddd159bbdeb1edad23e94cc6313040681d760d"), looks := false }, kinds := [], alts := [], laidByText := true, laidKinds := [.data, .pinned], laidTests := true, laidLooks := .later }
def LetterGroupsUptoCardSaid : Prop := Claim7.holds Tryd.pinned (.plain (OpenSpec.upto letterGroupsSpec)) letterGroupsUptoCard

/-- THE SECOND FORM's CARD OF 'postbaglaw5.LetterSaid'. -/
def letterSaidUptoCard : Claim7 := { stood := { row := letterSaidUptoRow, standIns := [], harness := (true, "5f3d31b9af14ae650868d697c8ddd159bbdeb1edad23e94cc6313040681d760d"), looks := false }, kinds := [], alts := [], laidByText := true, laidKinds := [.data, .pinned], laidTests := true, laidLooks := .later }
def LetterSaidUptoCardSaid : Prop := Claim7.holds Tryd.pinned (.plain (OpenSpec.upto letterSaidSpec)) letterSaidUptoCard
end Rows
end Go.Proofs.YtnipklplcipaiaaDoor
