/-
  NARROWER THAN 'FOR EVERY INPUT', by the rows' own cells (each row's printed sentence says how): WordRoundTrip: laid · WordUnchanged: laid · ArticleLevels: laid · WordWord: laid · WordMaximal: laid · WordAgain: laid.
  DERIVED. THE GIVEN ROWS OF THIS SEAT. 6 by the template 'for every input the law returns true; each argument reads behind the call as it read before'; 0 by the template 'total and deterministic' (their statements: YtfeciafdioepiaaDoorTotals.lean).
  GIVEN WITH THE SEED: the statements are not yours to turn. If you find one false, say at which input.
  Laid BY PROGRAM, IN A SANDBOX (cutbox-rows.mjs): the forced cells as the released guide's own fill.sh prints them over the translation 86083f1807b74121… (all of the seat's roots in one cut). By AI agents, Wed Nov 11 2026. No macro, syntax, notation, axiom, sorry.
-/
import Derived.Test.YtfeciafdioepiaaDoorChecked
import GoSem.PinnedTables
import GoSem.Claim
import GoSem.ClaimJoined
import GoSem.ClaimMapViews
import Derived.JoinedTies
import Derived.KernelRfl
namespace Go.Proofs.YtfeciafdioepiaaDoor
/- THE CELL 'sum', in the pinned program and in every row, IS THE sha256 OF THE DUMP (.gsa) THAT YtfeciafdioepiaaDoorProg.lean LOADS. Nothing in Lean hashes anything: it is a label: what it is worth is what the hold of that sum in a sandbox is worth. -/
noncomputable def Tryd.pinned : Pinned := { name := "ytfeciafdioepiaadoor", sum := "86083f1807b7412192c3e647af3b1f94ce19d4e7cea209cd417383f300a58d92", checked := Tryd.checked }
namespace Rows
def none {H : Type} : Left H := { results := [], args := [] }

/- WHAT THE LISTED PACKAGE-LEVEL VARIABLES READ AS WHEN THE CALL BEGINS. Each datum BY PROGRAM (the guide's laid-datum.mjs) off the statement by which the dump's own 'gosem.cut.vars' lays the variable. In a bare row this is a premise. The card (YtfeciafdioepiaaDoorCards.lean) ties it to the program's text. -/
def laid_unicode_utf8_acceptRanges {H : Type} : DataW H := .agg [.agg [.lit (.int .u8 128), .lit (.int .u8 191)], .agg [.lit (.int .u8 160), .lit (.int .u8 191)], .agg [.lit (.int .u8 128), .lit (.int .u8 159)], .agg [.lit (.int .u8 144), .lit (.int .u8 191)], .agg [.lit (.int .u8 128), .lit (.int .u8 143)], .agg [.lit (.int .u8 0), .lit (.int .u8 0)], .agg [.lit (.int .u8 0), .lit (.int .u8 0)], .agg [.lit (.int .u8 0), .lit (.int .u8 0)], .agg [.lit (.int .u8 0), .lit (.int .u8 0)], .agg [.lit (.int .u8 0), .lit (.int .u8 0)], .agg [.lit (.int .u8 0), .lit (.int .u8 0)], .agg [.lit (.int .u8 0), .lit (.int .u8 0)], .agg [.lit (.int .u8 0), .lit (.int .u8 0)], .agg [.lit (.int .u8 0), .lit (.int .u8 0)], .agg [.lit (.int .u8 0), .lit (.int .u8 0)], .agg [.lit (.int .u8 0), .lit (.int .u8 0)]]
/-- One of Go's own tables, pinned by name: the form's constant. -/
def laid_unicode_utf8_first : DataW Unit := Go.Pinned.utf8First

/-- 'bulletinlaw10.WordRoundTrip': WHATEVER THE INPUT: true; the input reads as it did. -/
def wordRoundTripSpec : ChangeSpec := { name := "wordRoundTrip", fn := fun _ => fun
  | [d1, d2] => { results := [.lit (.bool true)], args := [d1, d2] }
  | _ => none }
def wordRoundTripRow : OpenClaim := { program := "ytfeciafdioepiaadoor", sum := "86083f1807b7412192c3e647af3b1f94ce19d4e7cea209cd417383f300a58d92", func := "bulletin/bulletinlaw10.WordRoundTrip", spec := "wordRoundTrip", inPlace := ["internal/abi.NoEscape", "internal/bytealg.IndexByteString", "internal/bytealg.IndexString", "internal/bytealg.MakeNoZero"], unfollowed := true, recurses := true, named := ["internal/bytealg.MaxLen", "unicode/utf8.first", "unicode/utf8.acceptRanges"], apart := false, laid := [("unicode/utf8.acceptRanges", laid_unicode_utf8_acceptRanges), ("unicode/utf8.first", laid_unicode_utf8_first)] }
def WordRoundTripSaid : Prop := wordRoundTripRow.holds Tryd.pinned (OpenSpec.ofChange wordRoundTripSpec)

/-- ITS FALSE NEIGHBOUR: 'it returns false'. Refute it at one input. -/
def wordRoundTripWrong : ChangeSpec := { name := "wordRoundTrip", fn := fun _ => fun
  | [d1, d2] => { results := [.lit (.bool false)], args := [d1, d2] }
  | _ => none }
def WordRoundTripWrongFalsely : Prop := wordRoundTripRow.holds Tryd.pinned (OpenSpec.ofChange wordRoundTripWrong)

/-- 'bulletinlaw10.WordUnchanged': WHATEVER THE INPUT: true; the input reads as it did. -/
def wordUnchangedSpec : ChangeSpec := { name := "wordUnchanged", fn := fun _ => fun
  | [d] => { results := [.lit (.bool true)], args := [d] }
  | _ => none }
def wordUnchangedRow : OpenClaim := { program := "ytfeciafdioepiaadoor", sum := "86083f1807b7412192c3e647af3b1f94ce19d4e7cea209cd417383f300a58d92", func := "bulletin/bulletinlaw10.WordUnchanged", spec := "wordUnchanged", inPlace := ["internal/abi.NoEscape", "internal/bytealg.IndexByteString", "internal/bytealg.IndexString", "internal/bytealg.MakeNoZero"], unfollowed := true, recurses := true, named := ["internal/bytealg.MaxLen", "unicode/utf8.first", "unicode/utf8.acceptRanges"], apart := false, laid := [("unicode/utf8.acceptRanges", laid_unicode_utf8_acceptRanges), ("unicode/utf8.first", laid_unicode_utf8_first)] }
def WordUnchangedSaid : Prop := wordUnchangedRow.holds Tryd.pinned (OpenSpec.ofChange wordUnchangedSpec)

/-- ITS FALSE NEIGHBOUR: 'it returns false'. Refute it at one input. -/
def wordUnchangedWrong : ChangeSpec := { name := "wordUnchanged", fn := fun _ => fun
  | [d] => { results := [.lit (.bool false)], args := [d] }
  | _ => none }
def WordUnchangedWrongFalsely : Prop := wordUnchangedRow.holds Tryd.pinned (OpenSpec.ofChange wordUnchangedWrong)

/-- 'bulletinlaw15.ArticleLevels': WHATEVER THE INPUT: true; the input reads as it did. -/
def articleLevelsSpec : ChangeSpec := { name := "articleLevels", fn := fun _ => fun
  | [d] => { results := [.lit (.bool true)], args := [d] }
  | _ => none }
def articleLevelsRow : OpenClaim := { program := "ytfeciafdioepiaadoor", sum := "86083f1807b7412192c3e647af3b1f94ce19d4e7cea209cd417383f300a58d92", func := "bulletin/bulletinlaw15.ArticleLevels", spec := "articleLevels", inPlace := ["internal/bytealg.IndexByteString", "internal/bytealg.IndexString", "internal/abi.NoEscape", "internal/bytealg.MakeNoZero"], unfollowed := true, recurses := true, named := ["unicode/utf8.first", "unicode/utf8.acceptRanges", "internal/bytealg.MaxLen"], apart := false, laid := [("unicode/utf8.acceptRanges", laid_unicode_utf8_acceptRanges), ("unicode/utf8.first", laid_unicode_utf8_first)] }
def ArticleLevelsSaid : Prop := articleLevelsRow.holds Tryd.pinned (OpenSpec.ofChange articleLevelsSpec)

/-- ITS FALSE NEIGHBOUR: 'it returns false'. Refute it at one input. -/
def articleLevelsWrong : ChangeSpec := { name := "articleLevels", fn := fun _ => fun
  | [d] => { results := [.lit (.bool false)], args := [d] }
  | _ => none }
def ArticleLevelsWrongFalsely : Prop := articleLevelsRow.holds Tryd.pinned (OpenSpec.ofChange articleLevelsWrong)

/-- 'bulletinlaw10.WordWord': WHATEVER THE INPUT: true; the input reads as it did. -/
def wordWordSpec : ChangeSpec := { name := "wordWord", fn := fun _ => fun
  | [d1, d2] => { results := [.lit (.bool true)], args := [d1, d2] }
  | _ => none }
def wordWordRow : OpenClaim := { program := "ytfeciafdioepiaadoor", sum := "86083f1807b7412192c3e647af3b1f94ce19d4e7cea209cd417383f300a58d92", func := "bulletin/bulletinlaw10.WordWord", spec := "wordWord", inPlace := ["internal/abi.NoEscape", "internal/bytealg.IndexByteString", "internal/bytealg.IndexString", "internal/bytealg.MakeNoZero"], unfollowed := true, recurses := true, named := ["internal/bytealg.MaxLen", "unicode/utf8.first", "unicode/utf8.acceptRanges"], apart := false, laid := [("unicode/utf8.acceptRanges", laid_unicode_utf8_acceptRanges), ("unicode/utf8.first", laid_unicode_utf8_first)] }
def WordWordSaid : Prop := wordWordRow.holds Tryd.pinned (OpenSpec.ofChange wordWordSpec)

/-- ITS FALSE NEIGHBOUR: 'it returns false'. Refute it at one input. -/
def wordWordWrong : ChangeSpec := { name := "wordWord", fn := fun _ => fun
  | [d1, d2] => { results := [.lit (.bool false)], args := [d1, d2] }
  | _ => none }
def WordWordWrongFalsely : Prop := wordWordRow.holds Tryd.pinned (OpenSpec.ofChange wordWordWrong)

/-- 'bulletinlaw10.WordMaximal': WHATEVER THE INPUT: true; the input reads as it did. -/
def wordMaximalSpec : ChangeSpec := { name := "wordMaximal", fn := fun _ => fun
  | [d1, d2] => { results := [.lit (.bool true)], args := [d1, d2] }
  | _ => none }
def wordMaximalRow : OpenClaim := { program := "ytfeciafdioepiaadoor", sum := "86083f1807b7412192c3e647af3b1f94ce19d4e7cea209cd417383f300a58d92", func := "bulletin/bulletinlaw10.WordMaximal", spec := "wordMaximal", inPlace := ["internal/abi.NoEscape", "internal/bytealg.IndexByteString", "internal/bytealg.IndexString", "internal/bytealg.MakeNoZero"], unfollowed := true, recurses := true, named := ["internal/bytealg.MaxLen", "unicode/utf8.first", "unicode/utf8.acceptRanges"], apart := false, laid := [("unicode/utf8.acceptRanges", laid_unicode_utf8_acceptRanges), ("unicode/utf8.first", laid_unicode_utf8_first)] }
def WordMaximalSaid : Prop := wordMaximalRow.holds Tryd.pinned (OpenSpec.ofChange wordMaximalSpec)

/-- ITS FALSE NEIGHBOUR: 'it returns false'. Refute it at one input. -/
def wordMaximalWrong : ChangeSpec := { name := "wordMaximal", fn := fun _ => fun
  | [d1, d2] => { results := [.lit (.bool false)], args := [d1, d2] }
  | _ => none }
def WordMaximalWrongFalsely : Prop := wordMaximalRow.holds Tryd.pinned (OpenSpec.ofChange wordMaximalWrong)

/-- 'bulletinlaw10.WordAgain': WHATEVER THE INPUT: true; the input reads as it did. -/
def wordAgainSpec : ChangeSpec := { name := "wordAgain", fn := fun _ => fun
  | [d] => { results := [.lit (.bool true)], args := [d] }
  | _ => none }
def wordAgainRow : OpenClaim := { program := "ytfeciafdioepiaadoor", sum := "86083f1807b7412192c3e647af3b1f94ce19d4e7cea209cd417383f300a58d92", func := "bulletin/bulletinlaw10.WordAgain", spec := "wordAgain", inPlace := ["internal/abi.NoEscape", "internal/bytealg.IndexByteString", "internal/bytealg.IndexString", "internal/bytealg.MakeNoZero"], unfollowed := true, recurses := true, named := ["internal/bytealg.MaxLen", "unicode/utf8.first", "unicode/utf8.acceptRanges"], apart := false, laid := [("unicode/utf8.acceptRanges", laid_unicode_utf8_acceptRanges), ("unicode/utf8.first", laid_unicode_utf8_first)] }
def WordAgainSaid : Prop := wordAgainRow.holds Tryd.pinned (OpenSpec.ofChange wordAgainSpec)

/-- ITS FALSE NEIGHBOUR: 'it returns false'. Refute it at one input. -/
def wordAgainWrong : ChangeSpec := { name := "wordAgain", fn := fun _ => fun
  | [d] => { results := [.lit (.bool false)], args := [d] }
  | _ => none }
def WordAgainWrongFalsely : Prop := wordAgainRow.holds Tryd.pinned (OpenSpec.ofChange wordAgainWrong)

/- THE SECOND FORM. 'bulk': how many values and letters a reading holds, each counted each time it is reached (what is shared counts as often as it is met; a slice's spare places count too). A statement '..UptoSaid' is the law's where the arguments, and the package variables that the reading takes, are together of bulk at most 1048576: NARROWER than '..Said'. Prove '..Said' where nothing that the law and all that it calls make is longer than what came in: it says more and counts as full. Else prove '..UptoSaid'. A law counts once. -/
mutual
def uptoBulk {H : Type} : DataW H → Nat
  | .lit (.string bytes) => bytes.length + 1
  | .lit _ => 1
  | .nil => 1
  | .ptr d => uptoBulk d + 1
  | .slice elems spare => uptoBulkAll elems + uptoBulkAll spare + 1
  | .agg parts => uptoBulkAll parts + 1
  | .iface _ d => uptoBulk d + 1
  | .map entries => uptoBulkEntries entries + 1
  | .held _ => 1
def uptoBulkAll {H : Type} : List (DataW H) → Nat
  | [] => 0
  | d :: r => uptoBulk d + uptoBulkAll r
def uptoBulkEntries {H : Type} : List (Lit × DataW H) → Nat
  | [] => 0
  | x :: r => uptoBulkEntry x + uptoBulkEntries r
def uptoBulkEntry {H : Type} : Lit × DataW H → Nat
  | (.string bytes, d) => bytes.length + uptoBulk d + 1
  | (_, d) => uptoBulk d + 1
 end
def uptoSmall : (H : Type) → List (DataW H) → Bool := fun _ ds => decide (uptoBulkAll ds ≤ 1048576)
def OpenSpec.upto (s : _root_.Go.ChangeSpec) : _root_.Go.OpenSpec := { _root_.Go.OpenSpec.ofChange s with cond := some uptoSmall }

/-- 'bulletinlaw10.WordRoundTrip', WHERE WHAT IT READS IS OF BULK AT MOST 1048576: true; the input reads as it did. -/
def wordRoundTripUptoRow : OpenClaim := { program := "ytfeciafdioepiaadoor", sum := "86083f1807b7412192c3e647af3b1f94ce19d4e7cea209cd417383f300a58d92", func := "bulletin/bulletinlaw10.WordRoundTrip", spec := "wordRoundTrip", inPlace := ["internal/abi.NoEscape", "internal/bytealg.IndexByteString", "internal/bytealg.IndexString", "internal/bytealg.MakeNoZero"], unfollowed := true, recurses := true, named := ["internal/bytealg.MaxLen", "unicode/utf8.first", "unicode/utf8.acceptRanges"], apart := false, laid := [("unicode/utf8.acceptRanges", laid_unicode_utf8_acceptRanges), ("unicode/utf8.first", laid_unicode_utf8_first)], narrowed := true }
def WordRoundTripUptoSaid : Prop := wordRoundTripUptoRow.holds Tryd.pinned (OpenSpec.upto wordRoundTripSpec)

/-- 'bulletinlaw10.WordUnchanged', WHERE WHAT IT READS IS OF BULK AT MOST 1048576: true; the input reads as it did. -/
def wordUnchangedUptoRow : OpenClaim := { program := "ytfeciafdioepiaadoor", sum := "86083f1807b7412192c3e647af3b1f94ce19d4e7cea209cd417383f300a58d92", func := "bulletin/bulletinlaw10.WordUnchanged", spec := "wordUnchanged", inPlace := ["internal/abi.NoEscape", "internal/bytealg.IndexByteString", "internal/bytealg.IndexString", "internal/bytealg.MakeNoZero"], unfollowed := true, recurses := true, named := ["internal/bytealg.MaxLen", "unicode/utf8.first", "unicode/utf8.acceptRanges"], apart := false, laid := [("unicode/utf8.acceptRanges", laid_unicode_utf8_acceptRanges), ("unicode/utf8.first", laid_unicode_utf8_first)], narrowed := true }
def WordUnchangedUptoSaid : Prop := wordUnchangedUptoRow.holds Tryd.pinned (OpenSpec.upto wordUnchangedSpec)

/-- 'bulletinlaw15.ArticleLevels', WHERE WHAT IT READS IS OF BULK AT MOST 1048576: true; the input reads as it did. -/
def articleLevelsUptoRow : OpenClaim := { program := "ytfeciafdioepiaadoor", sum := "86083f1807b7412192c3e647af3b1f94ce19d4e7cea209cd417383f300a58d92", func := "bulletin/bulletinlaw15.ArticleLevels", spec := "articleLevels", inPlace := ["internal/bytealg.IndexByteString", "internal/bytealg.IndexString", "internal/abi.NoEscape", "internal/bytealg.MakeNoZero"], unfollowed := true, recurses := true, named := ["unicode/utf8.first", "unicode/utf8.acceptRanges", "internal/bytealg.MaxLen"], apart := false, laid := [("unicode/utf8.acceptRanges", laid_unicode_utf8_acceptRanges), ("unicode/utf8.first", laid_unicode_utf8_first)], narrowed := true }
def ArticleLevelsUptoSaid : Prop := articleLevelsUptoRow.holds Tryd.pinned (OpenSpec.upto articleLevelsSpec)

/-- 'bulletinlaw10.WordWord', WHERE WHAT IT READS IS OF BULK AT MOST 1048576: true; the input reads as it did. -/
def wordWordUptoRow : OpenClaim := { program := "ytfeciafdioepiaadoor", sum := "86083f1807b7412192c3e647af3b1f94ce19d4e7cea209cd417383f300a58d92", func := "bulletin/bulletinlaw10.WordWord", spec := "wordWord", inPlace := ["internal/abi.NoEscape", "internal/bytealg.IndexByteString", "internal/bytealg.IndexString", "internal/bytealg.MakeNoZero"], unfollowed := true, recurses := true, named := ["internal/bytealg.MaxLen", "unicode/utf8.first", "unicode/utf8.acceptRanges"], apart := false, laid := [("unicode/utf8.acceptRanges", laid_unicode_utf8_acceptRanges), ("unicode/utf8.first", laid_unicode_utf8_first)], narrowed := true }
def WordWordUptoSaid : Prop := wordWordUptoRow.holds Tryd.pinned (OpenSpec.upto wordWordSpec)

/-- 'bulletinlaw10.WordMaximal', WHERE WHAT IT READS IS OF BULK AT MOST 1048576: true; the input reads as it did. -/
def wordMaximalUptoRow : OpenClaim := { program := "ytfeciafdioepiaadoor", sum := "86083f1807b7412192c3e647af3b1f94ce19d4e7cea209cd417383f300a58d92", func := "bulletin/bulletinlaw10.WordMaximal", spec := "wordMaximal", inPlace := ["internal/abi.NoEscape", "internal/bytealg.IndexByteString", "internal/bytealg.IndexString", "internal/bytealg.MakeNoZero"], unfollowed := true, recurses := true, named := ["internal/bytealg.MaxLen", "unicode/utf8.first", "unicode/utf8.acceptRanges"], apart := false, laid := [("unicode/utf8.acceptRanges", laid_unicode_utf8_acceptRanges), ("unicode/utf8.first", laid_unicode_utf8_first)], narrowed := true }
def WordMaximalUptoSaid : Prop := wordMaximalUptoRow.holds Tryd.pinned (OpenSpec.upto wordMaximalSpec)

/-- 'bulletinlaw10.WordAgain', WHERE WHAT IT READS IS OF BULK AT MOST 1048576: true; the input reads as it did. -/
def wordAgainUptoRow : OpenClaim := { program := "ytfeciafdioepiaadoor", sum := "86083f1807b7412192c3e647af3b1f94ce19d4e7cea209cd417383f300a58d92", func := "bulletin/bulletinlaw10.WordAgain", spec := "wordAgain", inPlace := ["internal/abi.NoEscape", "internal/bytealg.IndexByteString", "internal/bytealg.IndexString", "internal/bytealg.MakeNoZero"], unfollowed := true, recurses := true, named := ["internal/bytealg.MaxLen", "unicode/utf8.first", "unicode/utf8.acceptRanges"], apart := false, laid := [("unicode/utf8.acceptRanges", laid_unicode_utf8_acceptRanges), ("unicode/utf8.first", laid_unicode_utf8_first)], narrowed := true }
def WordAgainUptoSaid : Prop := wordAgainUptoRow.holds Tryd.pinned (OpenSpec.upto wordAgainSpec)

end Rows
end Go.Proofs.YtfeciafdioepiaaDoor
