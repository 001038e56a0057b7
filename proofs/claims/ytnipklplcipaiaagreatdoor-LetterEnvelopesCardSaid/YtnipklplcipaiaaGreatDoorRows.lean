/-
  NARROWER THAN 'FOR EVERY INPUT', by the rows' own cells (each row's printed sentence says how): LetterFields: laid · LetterPicks: laid · LetterWords: laid · LetterAddresses: laid · LetterIds: laid · LetterBases: laid · LetterEnvelopes: laid · LetterKeeps: laid.
  DERIVED. THE GIVEN ROWS OF THIS SEAT. 8 by the template 'for every input the law returns true; each argument reads behind the call as it read before'; 0 by the template 'total and deterministic' (their statements: YtnipklplcipaiaaGreatDoorTotals.lean).
  GIVEN WITH THE SEED: the statements are not yours to turn. If you find one false, say at which input.
  Laid BY PROGRAM, IN A SANDBOX (cutbox-rows.mjs): the forced cells as the released guide's own fill.sh prints them over the translation 32fcde9455beaf80… (all of the seat's roots in one cut). By AI agents, Wed Nov 11 2026. No macro, syntax, notation, axiom, sorry.
-/
import Derived.Test.YtnipklplcipaiaaGreatDoorChecked
import GoSem.PinnedTables
import GoSem.Claim
import GoSem.ClaimJoined
import GoSem.ClaimMapViews
import Derived.JoinedTies
import Derived.KernelRfl
namespace Go.Proofs.YtnipklplcipaiaaGreatDoor
/- THE CELL 'sum', in the pinned program and in every row, IS THE sha256 OF THE DUMP (.gsa) THAT YtnipklplcipaiaaGreatDoorProg.lean LOADS. Nothing in Lean hashes anything: it is a label: what it is worth is what the hold of that sum in a sandbox is worth. -/
noncomputable def Tryz.pinned : Pinned := { name := "ytnipklplcipaiaagreatdoor", sum := "32fcde9455beaf8047979240c9aa95fec4d71289f4c28729696e736627b80275", checked := Tryz.checked }
namespace Rows
def none {H : Type} : Left H := { results := [], args := [] }

/- WHAT THE LISTED PACKAGE-LEVEL VARIABLES READ AS WHEN THE CALL BEGINS. Each datum BY PROGRAM (the guide's laid-datum.mjs) off the statement by which the dump's own 'gosem.cut.vars' lays the variable. In a bare row this is a premise. The card (YtnipklplcipaiaaGreatDoorCards.lean) ties it to the program's text. -/
def laid_unicode_utf8_acceptRanges {H : Type} : DataW H := .agg [.agg [.lit (.int .u8 128), .lit (.int .u8 191)], .agg [.lit (.int .u8 160), .lit (.int .u8 191)], .agg [.lit (.int .u8 128), .lit (.int .u8 159)], .agg [.lit (.int .u8 144), .lit (.int .u8 191)], .agg [.lit (.int .u8 128), .lit (.int .u8 143)], .agg [.lit (.int .u8 0), .lit (.int .u8 0)], .agg [.lit (.int .u8 0), .lit (.int .u8 0)], .agg [.lit (.int .u8 0), .lit (.int .u8 0)], .agg [.lit (.int .u8 0), .lit (.int .u8 0)], .agg [.lit (.int .u8 0), .lit (.int .u8 0)], .agg [.lit (.int .u8 0), .lit (.int .u8 0)], .agg [.lit (.int .u8 0), .lit (.int .u8 0)], .agg [.lit (.int .u8 0), .lit (.int .u8 0)], .agg [.lit (.int .u8 0), .lit (.int .u8 0)], .agg [.lit (.int .u8 0), .lit (.int .u8 0)], .agg [.lit (.int .u8 0), .lit (.int .u8 0)]]
/-- One of Go's own tables, pinned by name: the form's constant. -/
def laid_unicode_utf8_first : DataW Unit := Go.Pinned.utf8First

/-- 'postbaglaw5.LetterFields': WHATEVER THE INPUT: true; the input reads as it did. -/
def letterFieldsSpec : ChangeSpec := { name := "letterFields", fn := fun _ => fun
  | [d1, d2] => { results := [.lit (.bool true)], args := [d1, d2] }
  | _ => none }
def letterFieldsRow : OpenClaim := { program := "ytnipklplcipaiaagreatdoor", sum := "32fcde9455beaf8047979240c9aa95fec4d71289f4c28729696e736627b80275", func := "postbag/postbaglaw5.LetterFields", spec := "letterFields", inPlace := ["internal/bytealg.IndexByteString", "internal/bytealg.IndexString", "internal/abi.NoEscape"], unfollowed := true, recurses := true, named := ["internal/bytealg.MaxLen", "unicode/utf8.first", "unicode/utf8.acceptRanges"], apart := false, laid := [("unicode/utf8.acceptRanges", laid_unicode_utf8_acceptRanges), ("unicode/utf8.first", laid_unicode_utf8_first)] }
def LetterFieldsSaid : Prop := letterFieldsRow.holds Tryz.pinned (OpenSpec.ofChange letterFieldsSpec)

/-- ITS FALSE NEIGHBOUR: 'it returns false'. Refute it at one input. -/
def letterFieldsWrong : ChangeSpec := { name := "letterFields", fn := fun _ => fun
  | [d1, d2] => { results := [.lit (.bool false)], args := [d1, d2] }
  | _ => none }
def LetterFieldsWrongFalsely : Prop := letterFieldsRow.holds Tryz.pinned (OpenSpec.ofChange letterFieldsWrong)

/-- 'postbaglaw5.LetterPicks': WHATEVER THE INPUT: true; the input reads as it did. -/
def letterPicksSpec : ChangeSpec := { name := "letterPicks", fn := fun _ => fun
  | [d1, d2, d3] => { results := [.lit (.bool true)], args := [d1, d2, d3] }
  | _ => none }
def letterPicksRow : OpenClaim := { program := "ytnipklplcipaiaagreatdoor", sum := "32fcde9455beaf8047979240c9aa95fec4d71289f4c28729696e736627b80275", func := "postbag/postbaglaw5.LetterPicks", spec := "letterPicks", inPlace := ["internal/bytealg.IndexByteString", "internal/bytealg.IndexString", "internal/abi.NoEscape"], unfollowed := true, recurses := true, named := ["internal/bytealg.MaxLen", "unicode/utf8.first", "unicode/utf8.acceptRanges"], apart := false, laid := [("unicode/utf8.acceptRanges", laid_unicode_utf8_acceptRanges), ("unicode/utf8.first", laid_unicode_utf8_first)] }
def LetterPicksSaid : Prop := letterPicksRow.holds Tryz.pinned (OpenSpec.ofChange letterPicksSpec)

/-- ITS FALSE NEIGHBOUR: 'it returns false'. Refute it at one input. -/
def letterPicksWrong : ChangeSpec := { name := "letterPicks", fn := fun _ => fun
  | [d1, d2, d3] => { results := [.lit (.bool false)], args := [d1, d2, d3] }
  | _ => none }
def LetterPicksWrongFalsely : Prop := letterPicksRow.holds Tryz.pinned (OpenSpec.ofChange letterPicksWrong)

/-- 'postbaglaw5.LetterWords': WHATEVER THE INPUT: true; the input reads as it did. -/
def letterWordsSpec : ChangeSpec := { name := "letterWords", fn := fun _ => fun
  | [d1, d2] => { results := [.lit (.bool true)], args := [d1, d2] }
  | _ => none }
def letterWordsRow : OpenClaim := { program := "ytnipklplcipaiaagreatdoor", sum := "32fcde9455beaf8047979240c9aa95fec4d71289f4c28729696e736627b80275", func := "postbag/postbaglaw5.LetterWords", spec := "letterWords", inPlace := ["internal/bytealg.IndexByteString", "internal/bytealg.IndexString", "internal/abi.NoEscape"], unfollowed := true, recurses := true, named := ["internal/bytealg.MaxLen", "unicode/utf8.first", "unicode/utf8.acceptRanges"], apart := false, laid := [("unicode/utf8.acceptRanges", laid_unicode_utf8_acceptRanges), ("unicode/utf8.first", laid_unicode_utf8_first)] }
def LetterWordsSaid : Prop := letterWordsRow.holds Tryz.pinned (OpenSpec.ofChange letterWordsSpec)

/-- ITS FALSE NEIGHBOUR: 'it returns false'. Refute it at one input. -/
def letterWordsWrong : ChangeSpec := { name := "letterWords", fn := fun _ => fun
  | [d1, d2] => { results := [.lit (.bool false)], args := [d1, d2] }
  | _ => none }
def LetterWordsWrongFalsely : Prop := letterWordsRow.holds Tryz.pinned (OpenSpec.ofChange letterWordsWrong)

/-- 'postbaglaw5.LetterAddresses': WHATEVER THE INPUT: true; the input reads as it did. -/
def letterAddressesSpec : ChangeSpec := { name := "letterAddresses", fn := fun _ => fun
  | [d1, d2] => { results := [.lit (.bool true)], args := [d1, d2] }
  | _ => none }
def letterAddressesRow : OpenClaim := { program := "ytnipklplcipaiaagreatdoor", sum := "32fcde9455beaf8047979240c9aa95fec4d71289f4c28729696e736627b80275", func := "postbag/postbaglaw5.LetterAddresses", spec := "letterAddresses", inPlace := ["internal/abi.NoEscape", "internal/bytealg.IndexByteString", "internal/bytealg.IndexString"], unfollowed := true, recurses := true, named := ["internal/bytealg.MaxLen", "unicode/utf8.first", "unicode/utf8.acceptRanges"], apart := false, laid := [("unicode/utf8.acceptRanges", laid_unicode_utf8_acceptRanges), ("unicode/utf8.first", laid_unicode_utf8_first)] }
def LetterAddressesSaid : Prop := letterAddressesRow.holds Tryz.pinned (OpenSpec.ofChange letterAddressesSpec)

/-- ITS FALSE NEIGHBOUR: 'it returns false'. Refute it at one input. -/
def letterAddressesWrong : ChangeSpec := { name := "letterAddresses", fn := fun _ => fun
  | [d1, d2] => { results := [.lit (.bool false)], args := [d1, d2] }
  | _ => none }
def LetterAddressesWrongFalsely : Prop := letterAddressesRow.holds Tryz.pinned (OpenSpec.ofChange letterAddressesWrong)

/-- 'postbaglaw5.LetterIds': WHATEVER THE INPUT: true; the input reads as it did. -/
def letterIdsSpec : ChangeSpec := { name := "letterIds", fn := fun _ => fun
  | [d1, d2] => { results := [.lit (.bool true)], args := [d1, d2] }
  | _ => none }
def letterIdsRow : OpenClaim := { program := "ytnipklplcipaiaagreatdoor", sum := "32fcde9455beaf8047979240c9aa95fec4d71289f4c28729696e736627b80275", func := "postbag/postbaglaw5.LetterIds", spec := "letterIds", inPlace := ["internal/abi.NoEscape", "internal/bytealg.IndexByteString", "internal/bytealg.IndexString"], unfollowed := true, recurses := true, named := ["internal/bytealg.MaxLen", "unicode/utf8.first", "unicode/utf8.acceptRanges"], apart := false, laid := [("unicode/utf8.acceptRanges", laid_unicode_utf8_acceptRanges), ("unicode/utf8.first", laid_unicode_utf8_first)] }
def LetterIdsSaid : Prop := letterIdsRow.holds Tryz.pinned (OpenSpec.ofChange letterIdsSpec)

/-- ITS FALSE NEIGHBOUR: 'it returns false'. Refute it at one input. -/
def letterIdsWrong : ChangeSpec := { name := "letterIds", fn := fun _ => fun
  | [d1, d2] => { results := [.lit (.bool false)], args := [d1, d2] }
  | _ => none }
def LetterIdsWrongFalsely : Prop := letterIdsRow.holds Tryz.pinned (OpenSpec.ofChange letterIdsWrong)

/-- 'postbaglaw5.LetterBases': WHATEVER THE INPUT: true; the input reads as it did. -/
def letterBasesSpec : ChangeSpec := { name := "letterBases", fn := fun _ => fun
  | [d] => { results := [.lit (.bool true)], args := [d] }
  | _ => none }
def letterBasesRow : OpenClaim := { program := "ytnipklplcipaiaagreatdoor", sum := "32fcde9455beaf8047979240c9aa95fec4d71289f4c28729696e736627b80275", func := "postbag/postbaglaw5.LetterBases", spec := "letterBases", inPlace := ["internal/bytealg.IndexByteString", "internal/abi.NoEscape", "internal/bytealg.IndexString"], unfollowed := true, recurses := true, named := ["internal/bytealg.MaxLen", "unicode/utf8.first", "unicode/utf8.acceptRanges"], apart := false, laid := [("unicode/utf8.acceptRanges", laid_unicode_utf8_acceptRanges), ("unicode/utf8.first", laid_unicode_utf8_first)] }
def LetterBasesSaid : Prop := letterBasesRow.holds Tryz.pinned (OpenSpec.ofChange letterBasesSpec)

/-- ITS FALSE NEIGHBOUR: 'it returns false'. Refute it at one input. -/
def letterBasesWrong : ChangeSpec := { name := "letterBases", fn := fun _ => fun
  | [d] => { results := [.lit (.bool false)], args := [d] }
  | _ => none }
def LetterBasesWrongFalsely : Prop := letterBasesRow.holds Tryz.pinned (OpenSpec.ofChange letterBasesWrong)

/-- 'postbaglaw5.LetterEnvelopes': WHATEVER THE INPUT: true; the input reads as it did. -/
def letterEnvelopesSpec : ChangeSpec := { name := "letterEnvelopes", fn := fun _ => fun
  | [d1, d2] => { results := [.lit (.bool true)], args := [d1, d2] }
  | _ => none }
def letterEnvelopesRow : OpenClaim := { program := "ytnipklplcipaiaagreatdoor", sum := "32fcde9455beaf8047979240c9aa95fec4d71289f4c28729696e736627b80275", func := "postbag/postbaglaw5.LetterEnvelopes", spec := "letterEnvelopes", inPlace := ["internal/abi.NoEscape", "internal/bytealg.IndexByteString", "internal/bytealg.IndexString"], unfollowed := true, recurses := true, named := ["internal/bytealg.MaxLen", "unicode/utf8.first", "unicode/utf8.acceptRanges"], apart := false, laid := [("unicode/utf8.acceptRanges", laid_unicode_utf8_acceptRanges), ("unicode/utf8.first", laid_unicode_utf8_first)] }
def LetterEnvelopesSaid : Prop := letterEnvelopesRow.holds Tryz.pinned (OpenSpec.ofChange letterEnvelopesSpec)

/-- ITS FALSE NEIGHBOUR: 'it returns false'. Refute it at one input. -/
def letterEnvelopesWrong : ChangeSpec := { name := "letterEnvelopes", fn := fun _ => fun
  | [d1, d2] => { results := [.lit (.bool false)], args := [d1, d2] }
  | _ => none }
def LetterEnvelopesWrongFalsely : Prop := letterEnvelopesRow.holds Tryz.pinned (OpenSpec.ofChange letterEnvelopesWrong)

/-- 'postbaglaw5.LetterKeeps': WHATEVER THE INPUT: true; the input reads as it did. -/
def letterKeepsSpec : ChangeSpec := { name := "letterKeeps", fn := fun _ => fun
  | [d1, d2, d3] => { results := [.lit (.bool true)], args := [d1, d2, d3] }
  | _ => none }
def letterKeepsRow : OpenClaim := { program := "ytnipklplcipaiaagreatdoor", sum := "32fcde9455beaf8047979240c9aa95fec4d71289f4c28729696e736627b80275", func := "postbag/postbaglaw5.LetterKeeps", spec := "letterKeeps", inPlace := ["internal/bytealg.IndexByteString", "internal/bytealg.IndexString", "internal/abi.NoEscape"], unfollowed := true, recurses := true, named := ["internal/bytealg.MaxLen", "unicode/utf8.first", "unicode/utf8.acceptRanges"], apart := false, laid := [("unicode/utf8.acceptRanges", laid_unicode_utf8_acceptRanges), ("unicode/utf8.first", laid_unicode_utf8_first)] }
def LetterKeepsSaid : Prop := letterKeepsRow.holds Tryz.pinned (OpenSpec.ofChange letterKeepsSpec)

/-- ITS FALSE NEIGHBOUR: 'it returns false'. Refute it at one input. -/
def letterKeepsWrong : ChangeSpec := { name := "letterKeeps", fn := fun _ => fun
  | [d1, d2, d3] => { results := [.lit (.bool false)], args := [d1, d2, d3] }
  | _ => none }
def LetterKeepsWrongFalsely : Prop := letterKeepsRow.holds Tryz.pinned (OpenSpec.ofChange letterKeepsWrong)

/- THE SECOND FORM. 'bulk': how many values and letters a reading holds, each counted each time it is reached (what is shared counts as often as it is met; a slice's spare places count too). A statement '..UptoSaid' is the law's where the arguments, and the package variables that the reading takes, are together of bulk at most 1048576: NARROWER than '..Said'. Prove '..Said' where nothing that the law and all that it calls make is longer than what came in: it says more and counts as full. Else prove '..UptoSaid'. A law counts once. -/
mutual
def uptoBulk {H : Type} : DataW H → Nat
  | .lit (.string bytes) => bytes.length + 1
  | .lit _ => 1
  | .nil => 1
  | .ptr d => uptoBulk d + 1
  | .slice elems spare => uptoBulkAll elems + uptoBulkAll spare + 1
  | .agg parts => uptoBulkAll parts + 1
  | .iface _ d => uptoBulk d + 1
  | .map entries => uptoBulkEntries entries + 1
  | .held _ => 1
def uptoBulkAll {H : Type} : List (DataW H) → Nat
  | [] => 0
  | d :: r => uptoBulk d + uptoBulkAll r
def uptoBulkEntries {H : Type} : List (Lit × DataW H) → Nat
  | [] => 0
  | x :: r => uptoBulkEntry x + uptoBulkEntries r
def uptoBulkEntry {H : Type} : Lit × DataW H → Nat
  | (.string bytes, d) => bytes.length + uptoBulk d + 1
  | (_, d) => uptoBulk d + 1
 end
def uptoSmall : (H : Type) → List (DataW H) → Bool := fun _ ds => decide (uptoBulkAll ds ≤ 1048576)
def OpenSpec.upto (s : _root_.Go.ChangeSpec) : _root_.Go.OpenSpec := { _root_.Go.OpenSpec.ofChange s with cond := some uptoSmall }

/-- 'postbaglaw5.LetterFields', WHERE WHAT IT READS IS OF BULK AT MOST 1048576: true; the input reads as it did. -/
def letterFieldsUptoRow : OpenClaim := { program := "ytnipklplcipaiaagreatdoor", sum := "32fcde9455beaf8047979240c9aa95fec4d71289f4c28729696e736627b80275", func := "postbag/postbaglaw5.LetterFields", spec := "letterFields", inPlace := ["internal/bytealg.IndexByteString", "internal/bytealg.IndexString", "internal/abi.NoEscape"], unfollowed := true, recurses := true, named := ["internal/bytealg.MaxLen", "unicode/utf8.first", "unicode/utf8.acceptRanges"], apart := false, laid := [("unicode/utf8.acceptRanges", laid_unicode_utf8_acceptRanges), ("unicode/utf8.first", laid_unicode_utf8_first)], narrowed := true }
def LetterFieldsUptoSaid : Prop := letterFieldsUptoRow.holds Tryz.pinned (OpenSpec.upto letterFieldsSpec)

/-- 'postbaglaw5.LetterPicks', WHERE WHAT IT READS IS OF BULK AT MOST 1048576: true; the input reads as it did. -/
def letterPicksUptoRow : OpenClaim := { program := "ytnipklplcipaiaagreatdoor", sum := "32fcde9455beaf8047979240c9aa95fec4d71289f4c28729696e736627b80275", func := "postbag/postbaglaw5.LetterPicks", spec := "letterPicks", inPlace := ["internal/bytealg.IndexByteString", "internal/bytealg.IndexString", "internal/abi.NoEscape"], unfollowed := true, recurses := true, named := ["internal/bytealg.MaxLen", "unicode/utf8.first", "unicode/utf8.acceptRanges"], apart := false, laid := [("unicode/utf8.acceptRanges", laid_unicode_utf8_acceptRanges), ("unicode/utf8.first", laid_unicode_utf8_first)], narrowed := true }
def LetterPicksUptoSaid : Prop := letterPicksUptoRow.holds Tryz.pinned (OpenSpec.upto letterPicksSpec)

/-- 'postbaglaw5.LetterWords', WHERE WHAT IT READS IS OF BULK AT MOST 1048576: true; the input reads as it did. -/
def letterWordsUptoRow : OpenClaim := { program := "ytnipklplcipaiaagreatdoor", sum := "32fcde9455beaf8047979240c9aa95fec4d71289f4c28729696e736627b80275", func := "postbag/postbaglaw5.LetterWords", spec := "letterWords", inPlace := ["internal/bytealg.IndexByteString", "internal/bytealg.IndexString", "internal/abi.NoEscape"], unfollowed := true, recurses := true, named := ["internal/bytealg.MaxLen", "unicode/utf8.first", "unicode/utf8.acceptRanges"], apart := false, laid := [("unicode/utf8.acceptRanges", laid_unicode_utf8_acceptRanges), ("unicode/utf8.first", laid_unicode_utf8_first)], narrowed := true }
def LetterWordsUptoSaid : Prop := letterWordsUptoRow.holds Tryz.pinned (OpenSpec.upto letterWordsSpec)

/-- 'postbaglaw5.LetterAddresses', WHERE WHAT IT READS IS OF BULK AT MOST 1048576: true; the input reads as it did. -/
def letterAddressesUptoRow : OpenClaim := { program := "ytnipklplcipaiaagreatdoor", sum := "32fcde9455beaf8047979240c9aa95fec4d71289f4c28729696e736627b80275", func := "postbag/postbaglaw5.LetterAddresses", spec := "letterAddresses", inPlace := ["internal/abi.NoEscape", "internal/bytealg.IndexByteString", "internal/bytealg.IndexString"], unfollowed := true, recurses := true, named := ["internal/bytealg.MaxLen", "unicode/utf8.first", "unicode/utf8.acceptRanges"], apart := false, laid := [("unicode/utf8.acceptRanges", laid_unicode_utf8_acceptRanges), ("unicode/utf8.first", laid_unicode_utf8_first)], narrowed := true }
def LetterAddressesUptoSaid : Prop := letterAddressesUptoRow.holds Tryz.pinned (OpenSpec.upto letterAddressesSpec)

/-- 'postbaglaw5.LetterIds', WHERE WHAT IT READS IS OF BULK AT MOST 1048576: true; the input reads as it did. -/
def letterIdsUptoRow : OpenClaim := { program := "ytnipklplcipaiaagreatdoor", sum := "32fcde9455beaf8047979240c9aa95fec4d71289f4c28729696e736627b80275", func := "postbag/postbaglaw5.LetterIds", spec := "letterIds", inPlace := ["internal/abi.NoEscape", "internal/bytealg.IndexByteString", "internal/bytealg.IndexString"], unfollowed := true, recurses := true, named := ["internal/bytealg.MaxLen", "unicode/utf8.first", "unicode/utf8.acceptRanges"], apart := false, laid := [("unicode/utf8.acceptRanges", laid_unicode_utf8_acceptRanges), ("unicode/utf8.first", laid_unicode_utf8_first)], narrowed := true }
def LetterIdsUptoSaid : Prop := letterIdsUptoRow.holds Tryz.pinned (OpenSpec.upto letterIdsSpec)

/-- 'postbaglaw5.LetterBases', WHERE WHAT IT READS IS OF BULK AT MOST 1048576: true; the input reads as it did. -/
def letterBasesUptoRow : OpenClaim := { program := "ytnipklplcipaiaagreatdoor", sum := "32fcde9455beaf8047979240c9aa95fec4d71289f4c28729696e736627b80275", func := "postbag/postbaglaw5.LetterBases", spec := "letterBases", inPlace := ["internal/bytealg.IndexByteString", "internal/abi.NoEscape", "internal/bytealg.IndexString"], unfollowed := true, recurses := true, named := ["internal/bytealg.MaxLen", "unicode/utf8.first", "unicode/utf8.acceptRanges"], apart := false, laid := [("unicode/utf8.acceptRanges", laid_unicode_utf8_acceptRanges), ("unicode/utf8.first", laid_unicode_utf8_first)], narrowed := true }
def LetterBasesUptoSaid : Prop := letterBasesUptoRow.holds Tryz.pinned (OpenSpec.upto letterBasesSpec)

/-- 'postbaglaw5.LetterEnvelopes', WHERE WHAT IT READS IS OF BULK AT MOST 1048576: true; the input reads as it did. -/
def letterEnvelopesUptoRow : OpenClaim := { program := "ytnipklplcipaiaagreatdoor", sum := "32fcde9455beaf8047979240c9aa95fec4d71289f4c28729696e736627b80275", func := "postbag/postbaglaw5.LetterEnvelopes", spec := "letterEnvelopes", inPlace := ["internal/abi.NoEscape", "internal/bytealg.IndexByteString", "internal/bytealg.IndexString"], unfollowed := true, recurses := true, named := ["internal/bytealg.MaxLen", "unicode/utf8.first", "unicode/utf8.acceptRanges"], apart := false, laid := [("unicode/utf8.acceptRanges", laid_unicode_utf8_acceptRanges), ("unicode/utf8.first", laid_unicode_utf8_first)], narrowed := true }
def LetterEnvelopesUptoSaid : Prop := letterEnvelopesUptoRow.holds Tryz.pinned (OpenSpec.upto letterEnvelopesSpec)

/-- 'postbaglaw5.LetterKeeps', WHERE WHAT IT READS IS OF BULK AT MOST 1048576: true; the input reads as it did. -/
def letterKeepsUptoRow : OpenClaim := { program := "ytnipklplcipaiaagreatdoor", sum := "32fcde9455beaf8047979240c9aa95fec4d71289f4c28729696e736627b80275", func := "postbag/postbaglaw5.LetterKeeps", spec := "letterKeeps", inPlace := ["internal/bytealg.IndexByteString", "internal/bytealg.IndexString", "internal/abi.NoEscape"], unfollowed := true, recurses := true, named := ["internal/bytealg.MaxLen", "unicode/utf8.first", "unicode/utf8.acceptRanges"], apart := false, laid := [("unicode/utf8.acceptRanges", laid_unicode_utf8_acceptRanges), ("unicode/utf8.first", laid_unicode_utf8_first)], narrowed := true }
def LetterKeepsUptoSaid : Prop := letterKeepsUptoRow.holds Tryz.pinned (OpenSpec.upto letterKeepsSpec)

end Rows
end Go.Proofs.YtnipklplcipaiaaGreatDoor
