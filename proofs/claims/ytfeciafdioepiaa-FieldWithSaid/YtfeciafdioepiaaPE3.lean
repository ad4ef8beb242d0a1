-- PRINTED by print.py (a twelfth state) out of the translation. Not trusted: Lean checks it.
import Derived.Test.YtfeciafdioepiaaPAc
import Derived.Test.YtfeciafdioepiaaPAd
import Derived.Test.YtfeciafdioepiaaPA6
import Derived.Test.YtfeciafdioepiaaPB3
import Derived.Test.YtfeciafdioepiaaProg
import Derived.Below
import Derived.Deep.Draws
import Derived.Deep.AppendLies
import Derived.Maps.AppendAt
import Derived.OwnWalk
import Derived.Laws.BytesArg
import Derived.Laws.MakeOwn
import Derived.Laws.OwnMore
import Derived.Deep.OwnRows
import Derived.Tactics
import Derived.Lib.ConvBytes
import Derived.Laws.Slices
import Derived.WalkKit
import Derived.KernelRfl
import Derived.RowKit3
import Derived.Deep.LoopGhost
import Derived.Deep.QuietTactic
import Derived.BigQuiet
import Derived.WideLaws
import Derived.Deep.DeepCutAuto
import Derived.Deep.CutBlock
import Derived.Deep.RegionHeld3
import Derived.Laws.Rows
import Derived.Lib.AppendStr
import Derived.ArgAppend
import Derived.Laws.IdiomCopy
import Derived.OrdersHeld
import Derived.Laws.BitsLemmas
import Derived.RowKit
import Derived.Test.YtfeciafdioepiaaH18
import Derived.Test.YtfeciafdioepiaaWWords
import Derived.Test.YtfeciafdioepiaaWLast
import Derived.Test.YtfeciafdioepiaaWTab
import Derived.Test.YtfeciafdioepiaaWFour
import Derived.Test.YtfeciafdioepiaaWQPut
import Derived.Test.YtfeciafdioepiaaWApart
import Derived.Test.YtfeciafdioepiaaWArr
import Derived.Test.YtfeciafdioepiaaWZeros
import Derived.Test.YtfeciafdioepiaaWFoot
import Derived.Test.YtfeciafdioepiaaWKept
import Derived.Test.YtfeciafdioepiaaWShare
import Derived.Test.YtfeciafdioepiaaWN
import Derived.Test.YtfeciafdioepiaaWFootNe
import Derived.Test.YtfeciafdioepiaaWAt
import Derived.Test.YtfeciafdioepiaaWEqStruct
import Derived.Test.YtfeciafdioepiaaWRepsOne
import Derived.Test.YtfeciafdioepiaaWInv
import Derived.Test.YtfeciafdioepiaaWInvWords
import Derived.Test.YtfeciafdioepiaaWGuard
import Derived.Test.YtfeciafdioepiaaWNEv
import Derived.Test.YtfeciafdioepiaaWMore
import Derived.Test.YtfeciafdioepiaaPE1
namespace Go.Proofs.Ytfeciafdioepiaa.PE
open Go.Proofs.Ytfeciafdioepiaa.PA
open Go.Proofs.Ytfeciafdioepiaa
open Go.RowKit Go.Proofs.YtfeciafdioepiaaW.PrintWords Go.Proofs.YtfeciafdioepiaaW.PrintLast Go.Proofs.YtfeciafdioepiaaW.PrintMore
attribute [local go_sem] max2_int min2_int max_two min_two max_three min_three max_four min_four   -- for this text's walks alone
set_option linter.unusedVariables false
set_option linter.unusedSimpArgs false

/-! ### bulletinlaw09_FieldWith: function 9 -/
mutual
def bulletinlaw09_FieldWith.j0 : Nat → List (S25) → List (S28) → List (S28) → List (S28) → Bool → Option (Bool)
  | 0, _, _, _, _, _ => none
  | k + 1, x0, x5, x7, x8, x51 => if x51 = true then (some false) else (bulletinlaw09_FieldWith.l0 k x0 x5 x7 x8 0)
def bulletinlaw09_FieldWith.l0 : Nat → List (S25) → List (S28) → List (S28) → List (S28) → Int → Option (Bool)
  | 0, _, _, _, _, _ => none
  | k + 1, x0, x5, x7, x8, x9 => if x9 < (x7.length : Int) then (if 0 ≤ x9 then (bulletinlaw09_FieldWith.l0 k x0 x5 (x7.set (x9 : Int).toNat (⟨(rd_T28 x7 x9).f0, (⟨#[99, 104, 97, 110, 103, 101, 100]⟩ : ByteArray)⟩ : S28)) x8 (wrap64 (x9 + 1))) else (none)) else (bulletinlaw09_FieldWith.l1 k x0 x5 x8 0)
def bulletinlaw09_FieldWith.l1 : Nat → List (S25) → List (S28) → List (S28) → Int → Option (Bool)
  | 0, _, _, _, _ => none
  | k + 1, x0, x5, x8, x10 => if x10 < (x8.length : Int) then (if 0 ≤ x10 then (bulletinlaw09_FieldWith.l1 k x0 x5 (x8.set (x10 : Int).toNat (⟨(⟨#[67, 104, 97, 110, 103, 101, 100]⟩ : ByteArray), (rd_T28 x8 x10).f1⟩ : S28)) (wrap64 (x10 + 1))) else (none)) else ((GV.known.f).bind fun t156 => (if t156 = true then ((PA.bulletinlaw09_Of.f k x5).bind fun t157 => ((PA.bulletinref09_Same.f k t157 x0).bind fun t160 => (some t160))) else (some false)))
end
def bulletinlaw09_FieldWith.f (k : Nat) (l0 : List (S25)) (a1_0 : ByteArray) (a1_1 : ByteArray) : Option (Bool) := (PA.bulletinlaw09_cut.f k l0).bind fun t112 => ((PA.bulletinlaw09_cut.f k (([(⟨a1_0, a1_1⟩ : S25)] : List (S25)))).bind fun t118 => (if 0 < (t118.length : Int) then ((PA.bulletinlaw09_To.f k t112).bind fun t122 => ((PB.bulletinref09_Without.f k t112 ((rd_T25 t118 0).f0)).bind fun t125 => ((GV.Without.f t122 ((rd_T25 t118 0).f0)).bind fun t128 => ((field_With.f t122 ((rd_T25 t118 0).f0) ((rd_T25 t118 0).f1)).bind fun t131 => ((PA.bulletinlaw09_Of.f k t128).bind fun t134 => ((PA.bulletinref09_Same.f k t134 t125).bind fun t137 => (if t137 = true then ((PA.bulletinlaw09_Of.f k t131).bind fun t138 => ((some (([] : List (S25)) : List (S25))).bind fun y141 => (if y141.length + t125.length < 4398046511104 then ((some (y141 ++ t125 : List (S25))).bind fun y144 => ((some (([(⟨(rd_T25 t118 0).f0, (rd_T25 t118 0).f1⟩ : S25)] : List (S25)) : List (S25))).bind fun y147 => (if y144.length + y147.length < 4398046511104 then ((PA.bulletinref09_Same.f k t138 (y144 ++ y147)).bind fun t153 => (bulletinlaw09_FieldWith.j0 k t112 t122 t128 t131 (!t153))) else (none)))) else (none)))) else (bulletinlaw09_FieldWith.j0 k t112 t122 t128 t131 true)))))))) else (none)))
def bulletinlaw09_FieldWith.T1 : Bool × List (List Nat × List Nat) := (true, [([], []), ([0], [0]), ([], []), ([2], [2]), ([3, 1], [3]), ([4], [4]), ([5], [5]), ([1, 4, 0, 1], [0, 1]), ([6, 7, 0, 1, 2, 3, 4, 5, 6, 7], [6])])
def bulletinlaw09_FieldWith.B1 : List Nat := [0, 1, 0, 4, 15, 31, 63, 31, 255]
theorem bulletinlaw09_FieldWith.tab1 : rtab .any (opsOf Try.f9 1) = bulletinlaw09_FieldWith.T1 := by kernel_rfl
theorem bulletinlaw09_FieldWith.bits1 : waitsOk bulletinlaw09_FieldWith.T1.2 bulletinlaw09_FieldWith.B1 = true := by kernel_rfl
def bulletinlaw09_FieldWith.T6 : Bool × List (List Nat × List Nat) := (true, [([], []), ([0], [0]), ([], []), ([1, 2, 1], [1, 2]), ([3], [3]), ([4, 3], [4]), ([5], [5]), ([6, 5, 5], [5, 6]), ([5], [5]), ([5], [5]), ([8, 9, 7, 5], [5, 8, 9]), ([5], [5]), ([11, 5], [5, 11]), ([10, 12, 10, 5], [5, 10, 12]), ([7, 13, 13, 5], [5, 7, 13]), ([14, 5], [5, 14]), ([5, 15], [5, 15])])
def bulletinlaw09_FieldWith.B6 : List Nat := [0, 1, 0, 7, 15, 31, 63, 127, 63, 63, 1023, 63, 2111, 8191, 16383, 32767, 65535]
theorem bulletinlaw09_FieldWith.tab6 : rtab .any (opsOf Try.f9 6) = bulletinlaw09_FieldWith.T6 := by kernel_rfl
theorem bulletinlaw09_FieldWith.bits6 : waitsOk bulletinlaw09_FieldWith.T6.2 bulletinlaw09_FieldWith.B6 = true := by kernel_rfl
theorem as0 {p : Prop} (h : p) : Aside0 p := .mk h

end Go.Proofs.Ytfeciafdioepiaa.PE
