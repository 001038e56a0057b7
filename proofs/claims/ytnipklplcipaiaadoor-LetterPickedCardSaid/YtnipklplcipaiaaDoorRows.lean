/-
  NARROWER THAN 'FOR EVERY INPUT', by the rows' own cells (each row's printed sentence says how): LetterSplits: laid · LetterGets: laid · LetterJoined: laid · LetterPicked: laid · LetterWorded: laid · LetterBased: laid · LetterGroups: laid · LetterSaid: laid.
  DERIVED. THE GIVEN ROWS OF THIS SEAT. 8 by the template 'for every input the law returns true; each argument reads behind the call as it read before'; 0 by the template 'total and deterministic' (their statements: YtnipklplcipaiaaDoorTotals.lean).
  GIVEN WITH THE SEED: the statements are not yours to turn. If you find one false, say at which input.
  Laid BY PROGRAM, IN A SANDBOX (cutbox-rows.mjs): the forced cells as the released guide's own fill.sh prints them over the translation b94f205919655d13… (all of the seat's roots in one cut). By AI agents, Wed Nov 11 2026. No macro, syntax, notation, axiom, sorry.
-/
import Derived.Test.YtnipklplcipaiaaDoorChecked
import GoSem.PinnedTables
import GoSem.Claim
import GoSem.ClaimJoined
import GoSem.ClaimMapViews
import Derived.JoinedTies
import Derived.KernelRfl
namespace Go.Proofs.YtnipklplcipaiaaDoor
/- THE CELL 'sum', in the pinned program and in every row, IS THE sha256 OF THE DUMP (.gsa) THAT YtnipklplcipaiaaDoorProg.lean LOADS. Nothing in Lean hashes anything: it is a label: what it is worth is what the hold of that sum in a sandbox is worth. -/
noncomputable def Tryd.pinned : Pinned := { name := "ytnipklplcipaiaadoor", sum := "b94f205919655d13db45c181ee1e996028bf4eb2ea366a9df7d4d117c2d6a355", checked := Tryd.checked }
namespace Rows
def none {H : Type} : Left H := { results := [], args := [] }

/- WHAT THE LISTED PACKAGE-LEVEL VARIABLES READ AS WHEN THE CALL BEGINS. Each datum BY PROGRAM (the guide's laid-datum.mjs) off the statement by which the dump's own 'gosem.cut.vars' lays the variable. In a bare row this is a premise. The card (YtnipklplcipaiaaDoorCards.lean) ties it to the program's text. -/
def laid_unicode_utf8_acceptRanges {H : Type} : DataW H := .agg [.agg [.lit (.int .u8 128), .lit (.int .u8 191)], .agg [.lit (.int .u8 160), .lit (.int .u8 191)], .agg [.lit (.int .u8 128), .lit (.int .u8 159)], .agg [.lit (.int .u8 144), .lit (.int .u8 191)], .agg [.lit (.int .u8 128), .lit (.int .u8 143)], .agg [.lit (.int .u8 0), .lit (.int .u8 0)], .agg [.lit (.int .u8 0), .lit (.int .u8 0)], .agg [.lit (.int .u8 0), .lit (.int .u8 0)], .agg [.lit (.int .u8 0), .lit (.int .u8 0)], .agg [.lit (.int .u8 0), .lit (.int .u8 0)], .agg [.lit (.int .u8 0), .lit (.int .u8 0)], .agg [.lit (.int .u8 0), .lit (.int .u8 0)], .agg [.lit (.int .u8 0), .lit (.int .u8 0)], .agg [.lit (.int .u8 0), .lit (.int .u8 0)], .agg [.lit (.int .u8 0), .lit (.int .u8 0)], .agg [.lit (.int .u8 0), .lit (.int .u8 0)]]
/-- One of Go's own tables, pinned by name: the form's constant. -/
def laid_unicode_utf8_first : DataW Unit := Go.Pinned.utf8First

/-- 'postbaglaw5.LetterSplits': WHATEVER THE INPUT: true; the input reads as it did. -/
def letterSplitsSpec : ChangeSpec := { name := "letterSplits", fn := fun _ => fun
  | [d] => { results := [.lit (.bool true)], args := [d] }
  | _ => none }
def letterSplitsRow : OpenClaim := { program := "ytnipklplcipaiaadoor", sum := "b94f205919655d13db45c181ee1e996028bf4eb2ea366a9df7d4d117c2d6a355", func := "postbag/postbaglaw5.LetterSplits", spec := "letterSplits", inPlace := ["internal/bytealg.IndexByteString", "internal/bytealg.IndexString", "internal/abi.NoEscape"], unfollowed := true, recurses := true, named := ["internal/bytealg.MaxLen", "unicode/utf8.first", "unicode/utf8.acceptRanges"], apart := false, laid := [("unicode/utf8.acceptRanges", laid_unicode_utf8_acceptRanges), ("unicode/utf8.first", laid_unicode_utf8_first)] }
def LetterSplitsSaid : Prop := letterSplitsRow.holds Tryd.pinned (OpenSpec.ofChange letterSplitsSpec)

/-- ITS FALSE NEIGHBOUR: 'it returns false'. Refute it at one input. -/
def letterSplitsWrong : ChangeSpec := { name := "letterSplits", fn := fun _ => fun
  | [d] => { results := [.lit (.bool false)], args := [d] }
  | _ => none }
def LetterSplitsWrongFalsely : Prop := letterSplitsRow.holds Tryd.pinned (OpenSpec.ofChange letterSplitsWrong)

/-- 'postbaglaw5.LetterGets': WHATEVER THE INPUT: true; the input reads as it did. -/
def letterGetsSpec : ChangeSpec := { name := "letterGets", fn := fun _ => fun
  | [d1, d2, d3] => { results := [.lit (.bool true)], args := [d1, d2, d3] }
  | _ => none }
def letterGetsRow : OpenClaim := { program := "ytnipklplcipaiaadoor", sum := "b94f205919655d13db45c181ee1e996028bf4eb2ea366a9df7d4d117c2d6a355", func := "postbag/postbaglaw5.LetterGets", spec := "letterGets", inPlace := ["internal/bytealg.IndexByteString", "internal/bytealg.IndexString", "internal/abi.NoEscape"], unfollowed := true, recurses := true, named := ["internal/bytealg.MaxLen", "unicode/utf8.first", "unicode/utf8.acceptRanges"], apart := false, laid := [("unicode/utf8.acceptRanges", laid_unicode_utf8_acceptRanges), ("unicode/utf8.first", laid_unicode_utf8_first)] }
def LetterGetsSaid : Prop := letterGetsRow.holds Tryd.pinned (OpenSpec.ofChange letterGetsSpec)

/-- ITS FALSE NEIGHBOUR: 'it returns false'. Refute it at one input. -/
def letterGetsWrong : ChangeSpec := { name := "letterGets", fn := fun _ => fun
  | [d1, d2, d3] => { results := [.lit (.bool false)], args := [d1, d2, d3] }
  | _ => none }
def LetterGetsWrongFalsely : Prop := letterGetsRow.holds Tryd.pinned (OpenSpec.ofChange letterGetsWrong)

/-- 'postbaglaw5.LetterJoined': WHATEVER THE INPUT: true; the input reads as it did. -/
def letterJoinedSpec : ChangeSpec := { name := "letterJoined", fn := fun _ => fun
  | [d] => { results := [.lit (.bool true)], args := [d] }
  | _ => none }
def letterJoinedRow : OpenClaim := { program := "ytnipklplcipaiaadoor", sum := "b94f205919655d13db45c181ee1e996028bf4eb2ea366a9df7d4d117c2d6a355", func := "postbag/postbaglaw5.LetterJoined", spec := "letterJoined", inPlace := ["internal/bytealg.IndexByteString", "internal/bytealg.IndexString", "internal/abi.NoEscape"], unfollowed := true, recurses := true, named := ["internal/bytealg.MaxLen", "unicode/utf8.first", "unicode/utf8.acceptRanges"], apart := false, laid := [("unicode/utf8.acceptRanges", laid_unicode_utf8_acceptRanges), ("unicode/utf8.first", laid_unicode_utf8_first)] }
def LetterJoinedSaid : Prop := letterJoinedRow.holds Tryd.pinned (OpenSpec.ofChange letterJoinedSpec)

/-- ITS FALSE NEIGHBOUR: 'it returns false'. Refute it at one input. -/
def letterJoinedWrong : ChangeSpec := { name := "letterJoined", fn := fun _ => fun
  | [d] => { results := [.lit (.bool false)], args := [d] }
  | _ => none }
def LetterJoinedWrongFalsely : Prop := letterJoinedRow.holds Tryd.pinned (OpenSpec.ofChange letterJoinedWrong)

/-- 'postbaglaw5.LetterPicked': WHATEVER THE INPUT: true; the input reads as it did. -/
def letterPickedSpec : ChangeSpec := { name := "letterPicked", fn := fun _ => fun
  | [d1, d2] => { results := [.lit (.bool true)], args := [d1, d2] }
  | _ => none }
def letterPickedRow : OpenClaim := { program := "ytnipklplcipaiaadoor", sum := "b94f205919655d13db45c181ee1e996028bf4eb2ea366a9df7d4d117c2d6a355", func := "postbag/postbaglaw5.LetterPicked", spec := "letterPicked", inPlace := ["internal/bytealg.IndexByteString", "internal/bytealg.IndexString", "internal/abi.NoEscape"], unfollowed := true, recurses := true, named := ["internal/bytealg.MaxLen", "unicode/utf8.first", "unicode/utf8.acceptRanges"], apart := false, laid := [("unicode/utf8.acceptRanges", laid_unicode_utf8_acceptRanges), ("unicode/utf8.first", laid_unicode_utf8_first)] }
def LetterPickedSaid : Prop := letterPickedRow.holds Tryd.pinned (OpenSpec.ofChange letterPickedSpec)

/-- ITS FALSE NEIGHBOUR: 'it returns false'. Refute it at one input. -/
def letterPickedWrong : ChangeSpec := { name := "letterPicked", fn := fun _ => fun
  | [d1, d2] => { results := [.lit (.bool false)], args := [d1, d2] }
  | _ => none }
def LetterPickedWrongFalsely : Prop := letterPickedRow.holds Tryd.pinned (OpenSpec.ofChange letterPickedWrong)

/-- 'postbaglaw5.LetterWorded': WHATEVER THE INPUT: true; the input reads as it did. -/
def letterWordedSpec : ChangeSpec := { name := "letterWorded", fn := fun _ => fun
  | [d1, d2, d3, d4] => { results := [.lit (.bool true)], args := [d1, d2, d3, d4] }
  | _ => none }
def letterWordedRow : OpenClaim := { program := "ytnipklplcipaiaadoor", sum := "b94f205919655d13db45c181ee1e996028bf4eb2ea366a9df7d4d117c2d6a355", func := "postbag/postbaglaw5.LetterWorded", spec := "letterWorded", inPlace := ["internal/bytealg.IndexByteString", "internal/bytealg.IndexString", "internal/abi.NoEscape"], unfollowed := true, recurses := true, named := ["internal/bytealg.MaxLen", "unicode/utf8.first", "unicode/utf8.acceptRanges"], apart := false, laid := [("unicode/utf8.acceptRanges", laid_unicode_utf8_acceptRanges), ("unicode/utf8.first", laid_unicode_utf8_first)] }
def LetterWordedSaid : Prop := letterWordedRow.holds Tryd.pinned (OpenSpec.ofChange letterWordedSpec)

/-- ITS FALSE NEIGHBOUR: 'it returns false'. Refute it at one input. -/
def letterWordedWrong : ChangeSpec := { name := "letterWorded", fn := fun _ => fun
  | [d1, d2, d3, d4] => { results := [.lit (.bool false)], args := [d1, d2, d3, d4] }
  | _ => none }
def LetterWordedWrongFalsely : Prop := letterWordedRow.holds Tryd.pinned (OpenSpec.ofChange letterWordedWrong)

/-- 'postbaglaw5.LetterBased': WHATEVER THE INPUT: true; the input reads as it did. -/
def letterBasedSpec : ChangeSpec := { name := "letterBased", fn := fun _ => fun
  | [d] => { results := [.lit (.bool true)], args := [d] }
  | _ => none }
def letterBasedRow : OpenClaim := { program := "ytnipklplcipaiaadoor", sum := "b94f205919655d13db45c181ee1e996028bf4eb2ea366a9df7d4d117c2d6a355", func := "postbag/postbaglaw5.LetterBased", spec := "letterBased", inPlace := ["internal/bytealg.IndexByteString", "internal/bytealg.IndexString", "internal/abi.NoEscape"], unfollowed := true, recurses := true, named := ["internal/bytealg.MaxLen", "unicode/utf8.first", "unicode/utf8.acceptRanges"], apart := false, laid := [("unicode/utf8.acceptRanges", laid_unicode_utf8_acceptRanges), ("unicode/utf8.first", laid_unicode_utf8_first)] }
def LetterBasedSaid : Prop := letterBasedRow.holds Tryd.pinned (OpenSpec.ofChange letterBasedSpec)

/-- ITS FALSE NEIGHBOUR: 'it returns false'. Refute it at one input. -/
def letterBasedWrong : ChangeSpec := { name := "letterBased", fn := fun _ => fun
  | [d] => { results := [.lit (.bool false)], args := [d] }
  | _ => none }
def LetterBasedWrongFalsely : Prop := letterBasedRow.holds Tryd.pinned (OpenSpec.ofChange letterBasedWrong)

/-- 'postbaglaw5.LetterGroups': WHATEVER THE INPUT: true; the input reads as it did. -/
def letterGroupsSpec : ChangeSpec := { name := "letterGroups", fn := fun _ => fun
  | [d] => { results := [.lit (.bool true)], args := [d] }
  | _ => none }
def letterGroupsRow : OpenClaim := { program := "ytnipklplcipaiaadoor", sum := "b94f205919655d13db45c181ee1e996028bf4eb2ea366a9df7d4d117c2d6a355", func := "postbag/postbaglaw5.LetterGroups", spec := "letterGroups", inPlace := ["internal/bytealg.IndexByteString", "internal/bytealg.IndexString", "internal/abi.NoEscape"], unfollowed := true, recurses := true, named := ["internal/bytealg.MaxLen", "unicode/utf8.first", "unicode/utf8.acceptRanges"], apart := false, laid := [("unicode/utf8.acceptRanges", laid_unicode_utf8_acceptRanges), ("unicode/utf8.first", laid_unicode_utf8_first)] }
def LetterGroupsSaid : Prop := letterGroupsRow.holds Tryd.pinned (OpenSpec.ofChange letterGroupsSpec)

/-- ITS FALSE NEIGHBOUR: 'it returns false'. Refute it at one input. -/
def letterGroupsWrong : ChangeSpec := { name := "letterGroups", fn := fun _ => fun
  | [d] => { results := [.lit (.bool false)], args := [d] }
  | _ => none }
def LetterGroupsWrongFalsely : Prop := letterGroupsRow.holds Tryd.pinned (OpenSpec.ofChange letterGroupsWrong)

/-- 'postbaglaw5.LetterSaid': WHATEVER THE INPUT: true; the input reads as it did. -/
def letterSaidSpec : ChangeSpec := { name := "letterSaid", fn := fun _ => fun
  | [d1, d2] => { results := [.lit (.bool true)], args := [d1, d2] }
  | _ => none }
def letterSaidRow : OpenClaim := { program := "ytnipklplcipaiaadoor", sum := "b94f205919655d13db45c181ee1e996028bf4eb2ea366a9df7d4d117c2d6a355", func := "postbag/postbaglaw5.LetterSaid", spec := "letterSaid", inPlace := ["internal/bytealg.IndexByteString", "internal/bytealg.IndexString", "internal/abi.NoEscape"], unfollowed := true, recurses := true, named := ["internal/bytealg.MaxLen", "unicode/utf8.first", "unicode/utf8.acceptRanges"], apart := false, laid := [("unicode/utf8.acceptRanges", laid_unicode_utf8_acceptRanges), ("unicode/utf8.first", laid_unicode_utf8_first)] }
def LetterSaidSaid : Prop := letterSaidRow.holds Tryd.pinned (OpenSpec.ofChange letterSaidSpec)

/-- ITS FALSE NEIGHBOUR: 'it returns false'. Refute it at one input. -/
def letterSaidWrong : ChangeSpec := { name := "letterSaid", fn := fun _ => fun
  | [d1, d2] => { results := [.lit (.bool false)], args := [d1, d2] }
  | _ => none }
def LetterSaidWrongFalsely : Prop := letterSaidRow.holds Tryd.pinned (OpenSpec.ofChange letterSaidWrong)

/- THE SECOND FORM. 'bulk': how many values and letters a reading holds, each counted each time it is reached (what is shared counts as often as it is met; a slice's spare places count too). A statement '..UptoSaid' is the law's where the arguments, and the package variables that the reading takes, are together of bulk at most 1048576: NARROWER than '..Said'. Prove '..Said' where nothing that the law and all that it calls make is longer than what came in: it says more and counts as full. Else prove '..UptoSaid'. A law counts once. -/
mutual
def uptoBulk {H : Type} : DataW H → Nat
  | .lit (.string bytes) => bytes.length + 1
  | .lit _ => 1
  | .nil => 1
  | .ptr d => uptoBulk d + 1
  | .slice elems spare => uptoBulkAll elems + uptoBulkAll spare + 1
  | .agg parts => uptoBulkAll parts + 1
  | .iface _ d => uptoBulk d + 1
  | .map entries => uptoBulkEntries entries + 1
  | .held _ => 1
def uptoBulkAll {H : Type} : List (DataW H) → Nat
  | [] => 0
  | d :: r => uptoBulk d + uptoBulkAll r
def uptoBulkEntries {H : Type} : List (Lit × DataW H) → Nat
  | [] => 0
  | x :: r => uptoBulkEntry x + uptoBulkEntries r
def uptoBulkEntry {H : Type} : Lit × DataW H → Nat
  | (.string bytes, d) => bytes.length + uptoBulk d + 1
  | (_, d) => uptoBulk d + 1
 end
def uptoSmall : (H : Type) → List (DataW H) → Bool := fun _ ds => decide (uptoBulkAll ds ≤ 1048576)
def OpenSpec.upto (s : _root_.Go.ChangeSpec) : _root_.Go.OpenSpec := { _root_.Go.OpenSpec.ofChange s with cond := some uptoSmall }

/-- 'postbaglaw5.LetterSplits', WHERE WHAT IT READS IS OF BULK AT MOST 1048576: true; the input reads as it did. -/
def letterSplitsUptoRow : OpenClaim := { program := "ytnipklplcipaiaadoor", sum := "b94f205919655d13db45c181ee1e996028bf4eb2ea366a9df7d4d117c2d6a355", func := "postbag/postbaglaw5.LetterSplits", spec := "letterSplits", inPlace := ["internal/bytealg.IndexByteString", "internal/bytealg.IndexString", "internal/abi.NoEscape"], unfollowed := true, recurses := true, named := ["internal/bytealg.MaxLen", "unicode/utf8.first", "unicode/utf8.acceptRanges"], apart := false, laid := [("unicode/utf8.acceptRanges", laid_unicode_utf8_acceptRanges), ("unicode/utf8.first", laid_unicode_utf8_first)], narrowed := true }
def LetterSplitsUptoSaid : Prop := letterSplitsUptoRow.holds Tryd.pinned (OpenSpec.upto letterSplitsSpec)

/-- 'postbaglaw5.LetterGets', WHERE WHAT IT READS IS OF BULK AT MOST 1048576: true; the input reads as it did. -/
def letterGetsUptoRow : OpenClaim := { program := "ytnipklplcipaiaadoor", sum := "b94f205919655d13db45c181ee1e996028bf4eb2ea366a9df7d4d117c2d6a355", func := "postbag/postbaglaw5.LetterGets", spec := "letterGets", inPlace := ["internal/bytealg.IndexByteString", "internal/bytealg.IndexString", "internal/abi.NoEscape"], unfollowed := true, recurses := true, named := ["internal/bytealg.MaxLen", "unicode/utf8.first", "unicode/utf8.acceptRanges"], apart := false, laid := [("unicode/utf8.acceptRanges", laid_unicode_utf8_acceptRanges), ("unicode/utf8.first", laid_unicode_utf8_first)], narrowed := true }
def LetterGetsUptoSaid : Prop := letterGetsUptoRow.holds Tryd.pinned (OpenSpec.upto letterGetsSpec)

/-- 'postbaglaw5.LetterJoined', WHERE WHAT IT READS IS OF BULK AT MOST 1048576: true; the input reads as it did. -/
def letterJoinedUptoRow : OpenClaim := { program := "ytnipklplcipaiaadoor", sum := "b94f205919655d13db45c181ee1e996028bf4eb2ea366a9df7d4d117c2d6a355", func := "postbag/postbaglaw5.LetterJoined", spec := "letterJoined", inPlace := ["internal/bytealg.IndexByteString", "internal/bytealg.IndexString", "internal/abi.NoEscape"], unfollowed := true, recurses := true, named := ["internal/bytealg.MaxLen", "unicode/utf8.first", "unicode/utf8.acceptRanges"], apart := false, laid := [("unicode/utf8.acceptRanges", laid_unicode_utf8_acceptRanges), ("unicode/utf8.first", laid_unicode_utf8_first)], narrowed := true }
def LetterJoinedUptoSaid : Prop := letterJoinedUptoRow.holds Tryd.pinned (OpenSpec.upto letterJoinedSpec)

/-- 'postbaglaw5.LetterPicked', WHERE WHAT IT READS IS OF BULK AT MOST 1048576: true; the input reads as it did. -/
def letterPickedUptoRow : OpenClaim := { program := "ytnipklplcipaiaadoor", sum := "b94f205919655d13db45c181ee1e996028bf4eb2ea366a9df7d4d117c2d6a355", func := "postbag/postbaglaw5.LetterPicked", spec := "letterPicked", inPlace := ["internal/bytealg.IndexByteString", "internal/bytealg.IndexString", "internal/abi.NoEscape"], unfollowed := true, recurses := true, named := ["internal/bytealg.MaxLen", "unicode/utf8.first", "unicode/utf8.acceptRanges"], apart := false, laid := [("unicode/utf8.acceptRanges", laid_unicode_utf8_acceptRanges), ("unicode/utf8.first", laid_unicode_utf8_first)], narrowed := true }
def LetterPickedUptoSaid : Prop := letterPickedUptoRow.holds Tryd.pinned (OpenSpec.upto letterPickedSpec)

/-- 'postbaglaw5.LetterWorded', WHERE WHAT IT READS IS OF BULK AT MOST 1048576: true; the input reads as it did. -/
def letterWordedUptoRow : OpenClaim := { program := "ytnipklplcipaiaadoor", sum := "b94f205919655d13db45c181ee1e996028bf4eb2ea366a9df7d4d117c2d6a355", func := "postbag/postbaglaw5.LetterWorded", spec := "letterWorded", inPlace := ["internal/bytealg.IndexByteString", "internal/bytealg.IndexString", "internal/abi.NoEscape"], unfollowed := true, recurses := true, named := ["internal/bytealg.MaxLen", "unicode/utf8.first", "unicode/utf8.acceptRanges"], apart := false, laid := [("unicode/utf8.acceptRanges", laid_unicode_utf8_acceptRanges), ("unicode/utf8.first", laid_unicode_utf8_first)], narrowed := true }
def LetterWordedUptoSaid : Prop := letterWordedUptoRow.holds Tryd.pinned (OpenSpec.upto letterWordedSpec)

/-- 'postbaglaw5.LetterBased', WHERE WHAT IT READS IS OF BULK AT MOST 1048576: true; the input reads as it did. -/
def letterBasedUptoRow : OpenClaim := { program := "ytnipklplcipaiaadoor", sum := "b94f205919655d13db45c181ee1e996028bf4eb2ea366a9df7d4d117c2d6a355", func := "postbag/postbaglaw5.LetterBased", spec := "letterBased", inPlace := ["internal/bytealg.IndexByteString", "internal/bytealg.IndexString", "internal/abi.NoEscape"], unfollowed := true, recurses := true, named := ["internal/bytealg.MaxLen", "unicode/utf8.first", "unicode/utf8.acceptRanges"], apart := false, laid := [("unicode/utf8.acceptRanges", laid_unicode_utf8_acceptRanges), ("unicode/utf8.first", laid_unicode_utf8_first)], narrowed := true }
def LetterBasedUptoSaid : Prop := letterBasedUptoRow.holds Tryd.pinned (OpenSpec.upto letterBasedSpec)

/-- 'postbaglaw5.LetterGroups', WHERE WHAT IT READS IS OF BULK AT MOST 1048576: true; the input reads as it did. -/
def letterGroupsUptoRow : OpenClaim := { program := "ytnipklplcipaiaadoor", sum := "b94f205919655d13db45c181ee1e996028bf4eb2ea366a9df7d4d117c2d6a355", func := "postbag/postbaglaw5.LetterGroups", spec := "letterGroups", inPlace := ["internal/bytealg.IndexByteString", "internal/bytealg.IndexString", "internal/abi.NoEscape"], unfollowed := true, recurses := true, named := ["internal/bytealg.MaxLen", "unicode/utf8.first", "unicode/utf8.acceptRanges"], apart := false, laid := [("unicode/utf8.acceptRanges", laid_unicode_utf8_acceptRanges), ("unicode/utf8.first", laid_unicode_utf8_first)], narrowed := true }
def LetterGroupsUptoSaid : Prop := letterGroupsUptoRow.holds Tryd.pinned (OpenSpec.upto letterGroupsSpec)

/-- 'postbaglaw5.LetterSaid', WHERE WHAT IT READS IS OF BULK AT MOST 1048576: true; the input reads as it did. -/
def letterSaidUptoRow : OpenClaim := { program := "ytnipklplcipaiaadoor", sum := "b94f205919655d13db45c181ee1e996028bf4eb2ea366a9df7d4d117c2d6a355", func := "postbag/postbaglaw5.LetterSaid", spec := "letterSaid", inPlace := ["internal/bytealg.IndexByteString", "internal/bytealg.IndexString", "internal/abi.NoEscape"], unfollowed := true, recurses := true, named := ["internal/bytealg.MaxLen", "unicode/utf8.first", "unicode/utf8.acceptRanges"], apart := false, laid := [("unicode/utf8.acceptRanges", laid_unicode_utf8_acceptRanges), ("unicode/utf8.first", laid_unicode_utf8_first)], narrowed := true }
def LetterSaidUptoSaid : Prop := letterSaidUptoRow.holds Tryd.pinned (OpenSpec.upto letterSaidSpec)

end Rows
end Go.Proofs.YtnipklplcipaiaaDoor
