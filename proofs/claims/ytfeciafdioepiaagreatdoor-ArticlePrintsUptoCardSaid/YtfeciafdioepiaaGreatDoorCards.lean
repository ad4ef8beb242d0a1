/-
  DERIVED. GIVEN WITH THE SEED: THE CARDS: each row of YtfeciafdioepiaaGreatDoorRows.lean that lists a variable, with what it lists TIED to the program's text (the seventh form; the later family's looks); each row that meets fmt, with fmt's text TOLD by the authors' own Lean function (tested against real Go, not proved from fmt's source: count such statements apart). THE CARD IS WHAT COUNTS. Prove the row's statement (the work); the ties are given (YtfeciafdioepiaaGreatDoorTie.lean); close each card by the builder's one call (the guide's Derived/Test/ToyasCard.lean, 'card_holds'). Laid BY PROGRAM, IN A SANDBOX (cutbox-door.mjs). By AI agents, Wed Nov 11 2026. No macro, syntax, notation, axiom, sorry.
-/
import Derived.Test.YtfeciafdioepiaaGreatDoorRows
import GoSem.ClaimSeven
namespace Go.Proofs.YtfeciafdioepiaaGreatDoor
namespace Rows

/-- THE TIED CARD OF 'bulletinlaw15.ArticleParses'. -/
def articleParsesCard : Claim7 := { stood := { row := articleParsesRow, standIns := [], harness := (true, "0ed969f1a3953f9b426fc905d95e5da96efd084e39c94fceb3821d79c3635a2d"), looks := false }, kinds := [], alts := [], laidByText := true, laidKinds := [.data, .pinned], laidTests := true, laidLooks := .later }
def ArticleParsesCardSaid : Prop := Claim7.holds Tryz.pinned (.plain (OpenSpec.ofChange articleParsesSpec)) articleParsesCard

/-- THE TIED CARD OF 'bulletinlaw15.ArticleBodies'. -/
def articleBodiesCard : Claim7 := { stood := { row := articleBodiesRow, standIns := [], harness := (true, "0ed969f1a3953f9b426fc905d95e5da96efd084e39c94fceb3821d79c3635a2d"), looks := false }, kinds := [], alts := [], laidByText := true, laidKinds := [.data, .pinned], laidTests := true, laidLooks := .later }
def ArticleBodiesCardSaid : Prop := Claim7.holds Tryz.pinned (.plain (OpenSpec.ofChange articleBodiesSpec)) articleBodiesCard

/-- THE TIED CARD OF 'bulletinlaw15.ArticleLimits'. -/
def articleLimitsCard : Claim7 := { stood := { row := articleLimitsRow, standIns := [], harness := (true, "0ed969f1a3953f9b426fc905d95e5da96efd084e39c94fceb3821d79c3635a2d"), looks := false }, kinds := [], alts := [], laidByText := true, laidKinds := [.data, .pinned], laidTests := true, laidLooks := .later }
def ArticleLimitsCardSaid : Prop := Claim7.holds Tryz.pinned (.plain (OpenSpec.ofChange articleLimitsSpec)) articleLimitsCard

/-- THE TIED CARD OF 'bulletinlaw15.ArticleQuotes'. -/
def articleQuotesCard : Claim7 := { stood := { row := articleQuotesRow, standIns := [], harness := (true, "0ed969f1a3953f9b426fc905d95e5da96efd084e39c94fceb3821d79c3635a2d"), looks := false }, kinds := [], alts := [], laidByText := true, laidKinds := [.data, .pinned], laidTests := true, laidLooks := .later }
def ArticleQuotesCardSaid : Prop := Claim7.holds Tryz.pinned (.plain (OpenSpec.ofChange articleQuotesSpec)) articleQuotesCard

/-- THE TIED CARD OF 'bulletinlaw15.ArticlePrints'. -/
def articlePrintsCard : Claim7 := { stood := { row := articlePrintsRow, standIns := [], harness := (true, "0ed969f1a3953f9b426fc905d95e5da96efd084e39c94fceb3821d79c3635a2d"), looks := false }, kinds := [], alts := [], laidByText := true, laidKinds := [.data, .pinned], laidTests := true, laidLooks := .later }
def ArticlePrintsCardSaid : Prop := Claim7.holds Tryz.pinned (.plain (OpenSpec.ofChange articlePrintsSpec)) articlePrintsCard

/-- THE TIED CARD OF 'bulletinlaw15.ArticleStrips'. -/
def articleStripsCard : Claim7 := { stood := { row := articleStripsRow, standIns := [], harness := (true, "0ed969f1a3953f9b426fc905d95e5da96efd084e39c94fceb3821d79c3635a2d"), looks := false }, kinds := [], alts := [], laidByText := true, laidKinds := [.data, .pinned], laidTests := true, laidLooks := .later }
def ArticleStripsCardSaid : Prop := Claim7.holds Tryz.pinned (.plain (OpenSpec.ofChange articleStripsSpec)) articleStripsCard

/-- THE TIED CARD OF 'bulletinlaw15.ArticleToLine'. -/
def articleToLineCard : Claim7 := { stood := { row := articleToLineRow, standIns := [], harness := (true, "0ed969f1a3953f9b426fc905d95e5da96efd084e39c94fceb3821d79c3635a2d"), looks := false }, kinds := [], alts := [], laidByText := true, laidKinds := [.data, .pinned], laidTests := true, laidLooks := .later }
def ArticleToLineCardSaid : Prop := Claim7.holds Tryz.pinned (.plain (OpenSpec.ofChange articleToLineSpec)) articleToLineCard

/-- THE TIED CARD OF 'bulletinlaw15.ArticleFromLine'. -/
def articleFromLineCard : Claim7 := { stood := { row := articleFromLineRow, standIns := [], harness := (true, "0ed969f1a3953f9b426fc905d95e5da96efd084e39c94fceb3821d79c3635a2d"), looks := false }, kinds := [], alts := [], laidByText := true, laidKinds := [.data, .pinned], laidTests := true, laidLooks := .later }
def ArticleFromLineCardSaid : Prop := Claim7.holds Tryz.pinned (.plain (OpenSpec.ofChange articleFromLineSpec)) articleFromLineCard

/-- THE SECOND FORM's CARD OF 'bulletinlaw15.ArticleParses'. -/
def articleParsesUptoCard : Claim7 := { stood := { row := articleParsesUptoRow, standIns := [], harness := (true, "0ed969f1a3953f9b426fc905d95e5da96efd084e39c94fceb3821d79c3635a2d"), looks := false }, kinds := [], alts := [], laidByText := true, laidKinds := [.data, .pinned], laidTests := true, laidLooks := .later }
def ArticleParsesUptoCardSaid : Prop := Claim7.holds Tryz.pinned (.plain (OpenSpec.upto articleParsesSpec)) articleParsesUptoCard

/-- THE SECOND FORM's CARD OF 'bulletinlaw15.ArticleBodies'. -/
def articleBodiesUptoCard : Claim7 := { stood := { row := articleBodiesUptoRow, standIns := [], harness := (true, "0ed969f1a3953f9b426fc905d95e5da96efd084e39c94fceb3821d79c3635a2d"), looks := false }, kinds := [], alts := [], laidByText := true, laidKinds := [.data, .pinned], laidTests := true, laidLooks := .later }
def ArticleBodiesUptoCardSaid : Prop := Claim7.holds Tryz.pinned (.plain (OpenSpec.upto articleBodiesSpec)) articleBodiesUptoCard

/-- THE SECOND FORM's CARD OF 'bulletinlaw15.ArticleLimits'. -/
def articleLimitsUptoCard : Claim7 := { stood := { row := articleLimitsUptoRow, standIns := [], harness := (true, "0ed969f1a3953f9b426fc905d95e5da96efd084e39c94fceb3821d79c3635a2d"), looks := false }, kinds := [], alts := [], laidByText := true, laidKinds := [.data, .pinned], laidTests := true, laidLooks := .later }
def ArticleLimitsUptoCardSaid : Prop := Claim7.holds Tryz.pinned (.plain (OpenSpec.upto articleLimitsSpec)) articleLimitsUptoCard

/-- THE SECOND FORM's CARD OF 'bulletinlaw15.ArticleQuotes'. -/
def articleQuotesUptoCard : Claim7 := { stood := { row := articleQuotesUptoRow, standIns := [], harness := (true, "0ed969f1a3953f9b426fc905d95e5da96efd084e39c94fceb3821d79c3635a2d"), looks := false }, kinds := [], alts := [], laidByText := true, laidKinds := [.data, .pinned], laidTests := true, laidLooks := .later }
def ArticleQuotesUptoCardSaid : Prop := Claim7.holds Tryz.pinned (.plain (OpenSpec.upto articleQuotesSpec)) articleQuotesUptoCard

/-- THE SECOND FORM's CARD OF 'bulletinlaw15.ArticlePrints'. -/
def articlePrintsUptoCard : Claim7 := { stood := { row := articlePrintsUptoRow, standIns := [], harness := (true, "0ed969f1a3953f9b426fc905d95e5da96efd084e39c94fceb3821d79c3635a2d"), looks := false }, kinds := [], alts := [], laidByText := true, laidKinds := [.data, .pinned], laidTests := true, laidLooks := .later }
def ArticlePrintsUptoCardSaid : Prop := Claim7.holds Tryz.pinned (.plain (OpenSpec.upto articlePrintsSpec)) articlePrintsUptoCard

/-- THE SECOND FORM's CARD OF 'bulletinlaw15.ArticleStrips'. -/
def articleStripsUptoCard : Claim7 := { stood := { row := articleStripsUptoRow, standIns := [], harness := (true, "0ed969f1a3953f9b426fc905d95e5da96efd084e39c94fceb3821d79c3635a2d"), looks := false }, kinds := [], alts := [], laidByText := true, laidKinds := [.data, .pinned], laidTests := true, laidLooks := .later }
def ArticleStripsUptoCardSaid : Prop := Claim7.holds Tryz.pinned (.plain (OpenSpec.upto articleStripsSpec)) articleStripsUptoCard

/-- THE SECOND FORM's CARD OF 'bulletinlaw15.ArticleToLine'. -/
def articleToLineUptoCard : Claim7 := { stood := { row := articleToLineUptoRow, standIns := [], harness := (true, "0ed969f1a3953f9b426fc905d95e5da96efd084e39c94fceb3821d79c3635a2d"), looks := false }, kinds := [], alts := [], laidByText := true, laidKinds := [.data, .pinned], laidTests := true, laidLooks := .later }
def ArticleToLineUptoCardSaid : Prop := Claim7.holds Tryz.pinned (.plain (OpenSpec.upto articleToLineSpec)) articleToLineUptoCard

/-- THE SECOND FORM's CARD OF 'bulletinlaw15.ArticleFromLine'. -/
def articleFromLineUptoCard : Claim7 := { stood := { row := articleFromLineUptoRow, standIns := [], harness := (true, "0ed969f1a3953f9b426fc905d95e5da96efd084e39c94fceb3821d79c3635a2d"), looks := false }, kinds := [], alts := [], laidByText := true, laidKinds := [.data, .pinned], laidTests := true, laidLooks := .later }
def ArticleFromLineUptoCardSaid : Prop := Claim7.holds Tryz.pinned (.plain (OpenSpec.upto articleFromLineSpec)) articleFromLineUptoCard
end Rows
end Go.Proofs.YtfeciafdioepiaaGreatDoor
