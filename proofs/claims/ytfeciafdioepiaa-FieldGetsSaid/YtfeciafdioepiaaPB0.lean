-- PRINTED by print.py (a twelfth state) out of the translation. Not trusted: Lean checks it.
import Derived.Test.YtfeciafdioepiaaProg
import Derived.Below
import Derived.Deep.Draws
import Derived.Deep.AppendLies
import Derived.Maps.AppendAt
import Derived.OwnWalk
import Derived.Laws.BytesArg
import Derived.Laws.MakeOwn
import Derived.Laws.OwnMore
import Derived.Deep.OwnRows
import Derived.Tactics
import Derived.Lib.ConvBytes
import Derived.Laws.Slices
import Derived.WalkKit
import Derived.KernelRfl
import Derived.RowKit3
import Derived.Deep.LoopGhost
import Derived.Deep.QuietTactic
import Derived.BigQuiet
import Derived.WideLaws
import Derived.Deep.DeepCutAuto
import Derived.Deep.CutBlock
import Derived.Deep.RegionHeld3
import Derived.Laws.Rows
import Derived.Lib.AppendStr
import Derived.ArgAppend
import Derived.Laws.IdiomCopy
import Derived.OrdersHeld
import Derived.Laws.BitsLemmas
import Derived.RowKit
import Derived.Test.YtfeciafdioepiaaHA
import Derived.Test.YtfeciafdioepiaaWWords
import Derived.Test.YtfeciafdioepiaaWLast
import Derived.Test.YtfeciafdioepiaaWTab
import Derived.Test.YtfeciafdioepiaaWFour
import Derived.Test.YtfeciafdioepiaaWQPut
import Derived.Test.YtfeciafdioepiaaWApart
import Derived.Test.YtfeciafdioepiaaWArr
import Derived.Test.YtfeciafdioepiaaWZeros
import Derived.Test.YtfeciafdioepiaaWFoot
import Derived.Test.YtfeciafdioepiaaWKept
import Derived.Test.YtfeciafdioepiaaWShare
import Derived.Test.YtfeciafdioepiaaWN
import Derived.Test.YtfeciafdioepiaaWFootNe
import Derived.Test.YtfeciafdioepiaaWAt
import Derived.Test.YtfeciafdioepiaaWEqStruct
import Derived.Test.YtfeciafdioepiaaWRepsOne
import Derived.Test.YtfeciafdioepiaaWInv
import Derived.Test.YtfeciafdioepiaaWInvWords
import Derived.Test.YtfeciafdioepiaaWGuard
import Derived.Test.YtfeciafdioepiaaWNEv
import Derived.Test.YtfeciafdioepiaaWMore
namespace Go.Proofs.Ytfeciafdioepiaa.PB
open Go.Proofs.Ytfeciafdioepiaa.PA
open Go.Proofs.Ytfeciafdioepiaa
open Go.RowKit Go.Proofs.YtfeciafdioepiaaW.PrintWords Go.Proofs.YtfeciafdioepiaaW.PrintLast Go.Proofs.YtfeciafdioepiaaW.PrintMore
attribute [local go_sem] max2_int min2_int max_two min_two max_three min_three max_four min_four   -- for this text's walks alone
set_option linter.unusedVariables false
set_option linter.unusedSimpArgs false




-- the values' own types
/-! #### struct type 28 -/

/-! #### struct type 25 -/

end Go.Proofs.Ytfeciafdioepiaa.PB
