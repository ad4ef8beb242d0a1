/- The row of ArticleLevels over the listed tables, and its tied card. -/
import Derived.RangeFuncFrom
import Derived.RangeFuncCalls
import Derived.Shelf.Abstract
import Derived.Shelf.RegionOpen
import Derived.WalkKit
import Derived.OwnWalkIn
import Derived.TacticsInMore
import Derived.LoopNIn
import Derived.LoopIn
import Derived.Test.YtfeciafdioepiaaDoorHL2
import Derived.Test.YtfeciafdioepiaaDoorHL4
import Derived.Test.YtfeciafdioepiaaDoorHL3
import Derived.Shelf.Strings.BuilderK
import Derived.Laws.EntriesVeiled
import Derived.Test.YtfeciafdioepiaaDoorProg
import Derived.Below
import Derived.Deep.Draws
import Derived.Deep.AppendLies
import Derived.Maps.AppendAt
import Derived.OwnWalk
import Derived.Laws.BytesArg
import Derived.Laws.MakeOwn
import Derived.Laws.OwnMore
import Derived.Deep.OwnRows
import Derived.Tactics
import Derived.Lib.ConvBytes
import Derived.Laws.Slices
import Derived.KernelRfl
import Derived.RowKit3
import Derived.Deep.LoopGhost
import Derived.Deep.QuietTactic
import Derived.BigQuiet
import Derived.WideLaws
import Derived.Deep.DeepCutAuto
import Derived.Deep.CutBlock
import Derived.Deep.RegionHeld3
import Derived.Laws.Rows
import Derived.Lib.AppendStr
import Derived.ArgAppend
import Derived.Laws.IdiomCopy
import Derived.OrdersHeld
import Derived.Laws.BitsLemmas
import Derived.RowKit
import Derived.Test.YtfeciafdioepiaaDoorWWords
import Derived.Test.YtfeciafdioepiaaDoorWLast
import Derived.Test.YtfeciafdioepiaaDoorWTab
import Derived.Test.YtfeciafdioepiaaDoorWFour
import Derived.Test.YtfeciafdioepiaaDoorWQPut
import Derived.Test.YtfeciafdioepiaaDoorWApart
import Derived.Test.YtfeciafdioepiaaDoorWArr
import Derived.Test.YtfeciafdioepiaaDoorWZeros
import Derived.Test.YtfeciafdioepiaaDoorWFoot
import Derived.Test.YtfeciafdioepiaaDoorWKept
import Derived.Test.YtfeciafdioepiaaDoorWShare
import Derived.Test.YtfeciafdioepiaaDoorWN
import Derived.Test.YtfeciafdioepiaaDoorWFootNe
import Derived.Test.YtfeciafdioepiaaDoorWAt
import Derived.Test.YtfeciafdioepiaaDoorWEqStruct
import Derived.Test.YtfeciafdioepiaaDoorWRepsOne
import Derived.Test.YtfeciafdioepiaaDoorWInv
import Derived.Test.YtfeciafdioepiaaDoorWInvWords
import Derived.Test.YtfeciafdioepiaaDoorWGuard
import Derived.Test.YtfeciafdioepiaaDoorWNEv
import Derived.Test.YtfeciafdioepiaaDoorWMore
import Derived.Test.YtfeciafdioepiaaDoorRows
import Derived.Test.YtfeciafdioepiaaDoorCards
import Derived.Test.YtfeciafdioepiaaDoorTie
import Derived.Test.YtfeciafdioepiaaDoorHL0
import Derived.ProofKit
import Derived.OpenShut
import Derived.ShutString
import Derived.ChangeOld
import Derived.SizedLaws
import Derived.HandedShaped
set_option linter.unusedVariables false
set_option linter.unusedSimpArgs false
namespace Go.Proofs.YtfeciafdioepiaaDoor
open Go.RowKit Go.Shelf Go.Proofs

theorem range_law2 {α : Type} {n : Nat} {P : Program} {g : Operand} {ps : Array Tmp} {assign body : Code} {Q : Exit → Act → World → Prop} {a : Act} {w : World}
    {gf : Nat} {lb : Array Value} (hg : a.eval g = .func (.func gf) #[] lb) (eg : ∀ args w, (callFunc gf args).run P w = .ok (.enter gf args) w)
    {encs : α → Array Value} {In : World → Prop} {Mv : World → World → Prop} {Rd : World → Prop} {S Sp : List α → Prop} {Lt : List α → α → Prop} (hseq : Iter P gf lb encs In Mv Rd S Sp Lt)
    (hMv : ∀ W W', Mv W W' → KeepsOthers W W') (hps : ∀ x, (encs x).size = ps.size)
    (I : List α → World → Prop) (Ix : Code → List α → World → Prop) (hIm : ∀ pre W W', I pre W → Mv W W' → I pre W') (hIr : ∀ pre W, I pre W → Rd W)
    (hIp : ∀ pre W l o, w.heap.size ≤ l → (∃ o0, W.heap[l]? = some o0 ∧ o0.isCells = false) → I pre W → I pre (W.putObj l o)) (hIxp : ∀ c pre W l o, w.heap.size ≤ l → (∃ o0, W.heap[l]? = some o0 ∧ o0.isCells = false) → Ix c pre W → Ix c pre (W.putObj l o))
    (h0 : ∀ o o', I [] ((w.alloc o).alloc o')) (hin : ∀ o o', In ((w.alloc o).alloc o')) (a₁ : α → Act)
    (hassign : ∀ (l : Nat) (x : α) (W : World) (K : Act → World → Prop), K (a₁ x) W →
      assign.wpIn (Fence.wide.inRound l) (n - 1 - 1) P (Exit.then K (fun _ _ _ => False)) { tmps := (ps.zip (encs x)).foldl (fun t (p, v) => t.setIfInBounds p v) a.tmps, defers := [] } W)
    (hbody : ∀ (l : Nat) (pre : List α) (x : α) (W : World), I pre W → Lt pre x → body.wpIn (Fence.wide.inRound l) (n - 1 - 1) P (roundEnds I Ix (pre ++ [x]) W) (a₁ x) W)
    (hdone : ∀ (D : Nat) (xs : List α) (W : World), w.heap.size ≤ D → S xs → I xs W → W.heap[D]? = some (.deferred (some [])) → Q .normal { a with defers := { target := .collected D, args := #[] } :: a.defers } W)
    (hstop : ∀ (D : Nat) (c : Code) (pre : List α) (W : World), w.heap.size ≤ D → Sp pre → Ix c pre W → W.heap[D]? = some (.deferred (some [])) → c.wpIn Fence.wide n P Q { a with defers := { target := .collected D, args := #[] } :: a.defers } W) :
    (Code.rangeFunc g ps assign body).wpIn Fence.wide n P Q a w := by
  refine wpIn_rangeFunc fun fn hfn => ?_
  generalize hD : w.heap.size = D at *
  let R : LoopState → Option Code → Obj := fun st pe => .loop { state := st, pending := pe, fn, tmps := a.tmps, params := ps, assign, body, defers := D }
  let W1 := (w.alloc (.deferred (some []))).alloc (R .ready none)
  have hL : W1.heap[D + 1]? = some (R .ready none) := by
    have := World.alloc_heap_new (w.alloc (.deferred (some []))) (R .ready none)
    rwa [World.size_alloc, hD] at this
  have hK : W1.heap[D]? = some (.deferred (some [])) := by
    have h1 : (w.alloc (.deferred (some []))).heap[D]? = some (.deferred (some [])) := by rw [← hD]; exact World.alloc_heap_new w _
    exact (Below.heap_alloc _ _ _ (by rw [World.size_alloc, hD]; omega)).trans h1
  -- what the iterator is told to keep, and what holds where a round has stopped it
  let J : List α → World → Prop := fun pre W => I pre W ∧ W.heap[D + 1]? = some (R .ready none) ∧ W.heap[D]? = some (.deferred (some []))
  let Jx : List α → World → Prop := fun pre W => ∃ c, Ix c pre W ∧ W.heap[D + 1]? = some (R .done (some c)) ∧ W.heap[D]? = some (.deferred (some []))
  have hit := hseq (n - 1) (D + 1) J Jx W1
    (fun pre W W' h hm => ⟨hIm _ _ _ h.1 hm, (hMv _ _ hm).same _ _ h.2.1 rfl, (hMv _ _ hm).same _ _ h.2.2 rfl⟩) (fun pre W h => hIr _ _ h.1)
  refine ⟨D + 1, [{ target := .collected D, args := #[] }], W1, { target := .fn (.func gf) lb, args := #[.func (.yield (D + 1)) #[] #[]] }, W1, gf, #[.func (.yield (D + 1)) #[] #[]] ++ lb, W1, ?_, ?_, fun _ _ => trivial, ?_, (fun h => nomatch h), ?_⟩
  · have := run_enterLoop_outer (P := P) (w := w) fn a.tmps ps assign body
    rw [hD] at this
    exact this
  · simp only [resolve, hg]
    simp [go_sem]
  · simp [invoke, go_sem, eg]
  refine (hit ?_ ⟨h0 _ _, hL, hK⟩ (hin _ _)).mono ?_
  · -- a round
    rintro pre x W ⟨hi, hl, hk⟩ hlt
    have hsz : D + 1 < W.heap.size := (Array.getElem?_eq_some_iff.1 hl).1
    refine ⟨fn, _, assign, body, run_yield hl (hps x), roundIn_of_wpIn hfn (hassign _ x W _ ⟨_, run_beginRound hl rfl, ?_⟩)⟩
    have hl2 : (W.putObj (D + 1) (R .busy none)).heap[D + 1]? = some (R .busy none) := World.putObj_heap_same hsz
    have hk2 : (W.putObj (D + 1) (R .busy none)).heap[D]? = some (.deferred (some [])) := (World.putObj_heap_other (by omega)).trans hk
    refine wpIn_mono (hbody _ pre x _ (hIp _ _ _ _ (by omega) ⟨_, hl, rfl⟩ hi) hlt) ?_
    -- the record behind the round, whatever the jump
    have after : ∀ (jump : Option Code) (W3 : World), KeepsOthers (W.putObj (D + 1) (R .busy none)) W3 →
        (Instr.endRound (D + 1) jump).run P W3 = .ok (.bool jump.isNone) (W3.putObj (D + 1) (R (if jump.isNone then .ready else .done) jump)) ∧
        (W3.putObj (D + 1) (R (if jump.isNone then .ready else .done) jump)).heap[D + 1]? = some (R (if jump.isNone then .ready else .done) jump) ∧
        (W3.putObj (D + 1) (R (if jump.isNone then .ready else .done) jump)).heap[D]? = some (.deferred (some [])) := fun jump W3 hk3 =>
      ⟨run_endRound jump (hk3.same _ _ hl2 rfl), World.putObj_heap_same (Array.getElem?_eq_some_iff.1 (hk3.same _ _ hl2 rfl)).1, (World.putObj_heap_other (by omega)).trans (hk3.same _ _ hk2 rfl)⟩
    rintro e a3 W3 hp
    have stops : ∀ c, KeepsOthers (W.putObj (D + 1) (R .busy none)) W3 → Ix c (pre ++ [x]) W3 → ∃ v w', (Instr.endRound (D + 1) (some c)).run P W3 = .ok v w' ∧ ((Ending.returned v = .returned (.bool true) ∧ J (pre ++ [x]) w') ∨ (Ending.returned v = .returned (.bool false) ∧ Jx (pre ++ [x]) w')) := by
      intro c hk3 hx
      obtain ⟨e1, e2, e3⟩ := after (some c) W3 hk3
      exact ⟨_, _, e1, .inr ⟨rfl, c, hIxp _ _ _ _ _ (by omega) ⟨_, hk3.same _ _ hl2 rfl, rfl⟩ hx, e2, e3⟩⟩
    cases e with
    | normal =>
      obtain ⟨hk3, hi3⟩ := hp
      obtain ⟨e1, e2, e3⟩ := after none W3 hk3
      exact ⟨_, _, e1, .inl ⟨rfl, hIp _ _ _ _ (by omega) ⟨_, hk3.same _ _ hl2 rfl, rfl⟩ hi3, e2, e3⟩⟩
    | ret => exact stops _ hp.1 hp.2
    | exit id => exact stops _ hp.1 hp.2
    | goto t => exact stops _ hp.1 hp.2
    | panic ch => exact hp.elim
    | outgrown => exact hp.elim
  · -- behind the iterator
    rintro e W2 ⟨⟨v, rfl⟩, (⟨xs, hS, hi, hl, hk⟩ | ⟨pre, hSp, c, hi, hl, hk⟩)⟩
    · exact ⟨none, _, run_endLoop hl (by simp), hdone _ xs _ (Nat.le_refl _) hS (hIp _ _ _ _ (by omega) ⟨_, hl, rfl⟩ hi) ((World.putObj_heap_other (by omega)).trans hk)⟩
    · exact ⟨some c, _, run_endLoop hl (by simp), hstop _ c pre _ (Nat.le_refl _) hSp (hIxp _ _ _ _ _ (by omega) ⟨_, hl, rfl⟩ hi) ((World.putObj_heap_other (by omega)).trans hk)⟩
end Go.Proofs.YtfeciafdioepiaaDoor
set_option linter.unusedVariables false
set_option linter.unusedSimpArgs false
namespace Go.Proofs.YtfeciafdioepiaaDoor
open Go.RowKit Go.Proofs Go.Proofs.YtfeciafdioepiaaDoorW.PrintWords Go.Proofs.YtfeciafdioepiaaDoor.PA

theorem copyCheck3 (B b : Nat) (bs : List Value) (w : World) (h : Lib.IsBuilder 57 5 B b bs w) :
    Calls Tryd.prog 57 #[.pointer (some ⟨b, 0, none⟩)] w fun e w' => e = .returned (.tuple #[]) ∧ (Lib.BuilderAt 57 5 B b (.pointer (some ⟨b, 0, none⟩)) bs w' ∧ Below B w w' ∧ Sib w w' ∧ KeepsOthers w w') := by
  rcases h with h | h
  · refine (copyCheck_fresh b w h.cell0 h.shape h.frozen0).mono ?_
    rintro e w' ⟨rfl, rfl⟩
    obtain ⟨hB, v, hb, _⟩ := id h
    exact ⟨rfl, h.used _, (Below.refl B w).setCell (p := ⟨b, 0, none⟩) h.1 _, Sib.set_ hb 0 _, KeepsOthers.setCell _ _ _⟩
  · refine (copyCheck_used b w h.cell0).mono ?_
    rintro e w' ⟨rfl, rfl⟩
    exact ⟨rfl, h, Below.refl B _, Sib.refl _, KeepsOthers.refl _⟩

set_option maxHeartbeats 2000000 in
set_option maxRecDepth 100000 in
theorem writeString3 (B b : Nat) (bs : List Value) (s : ByteArray) (w : World) (h : Lib.IsBuilder 57 5 B b bs w) (hlen : bs.length + s.size ≤ 140737488355328) (hBw : B ≤ w.heap.size) :
    Calls Tryd.prog 29 #[.pointer (some ⟨b, 0, none⟩), .string s] w fun e w' => e = .returned (.tuple #[.int .i64 s.size, .nilIface]) ∧ (Lib.BuilderAt 57 5 B b (.pointer (some ⟨b, 0, none⟩)) (bs ++ Lib.strCells s) w' ∧ Below B w w' ∧ Sib w w' ∧ KeepsOthers w w') := by
  obtain ⟨i0, hi, hz0, hz1, hz2⟩ := info_parts infoByte
  go_enter Tryd.func29, Tryd.ntmps29
  go_wp2_with (go_at_call 57; refine (copyCheck3 B b bs _ h).mono ?_)
  rintro e w1 ⟨rfl, h1, hb1, hs1, hko1⟩
  obtain ⟨hB, v, hbk, hown, hne⟩ := h1
  have c0 : w1.cell? ⟨b, 0, none⟩ = some (.pointer (some ⟨b, 0, none⟩)) := by rw [Lib.cell_of_heap hbk]; rfl
  have c1 : w1.cell? ⟨b, 1, none⟩ = some v := by rw [Lib.cell_of_heap hbk]; rfl
  go_wp2_with (at_builtin; refine Lib.wpList_append_own_string _ rfl _ _ 55 9 rfl B 5 i0 Tryd.underlying55 Tryd.underlying9 hi hz0 hz1 hz2 _ _ _ rfl hown s rfl ?c3 ?c4 ?c5 ?_)
  case c3 => unfold maxLen; omega
  case c4 => omega
  case c5 => have := hb1.size; omega
  intro v' w2 hown' hgrow _
  have hlt : b < w1.heap.size := by
    rcases Nat.lt_or_ge b w1.heap.size with h' | h'
    · exact h'
    · simp [Array.getElem?_eq_none h'] at hbk
  have hb2 : w2.heap[b]? = some (.cells #[.pointer (some ⟨b, 0, none⟩), v] 57 (0, 0)) := by
    rw [hgrow.block b hlt (fun e => hne e.symm)]
    exact hbk
  have d0 : w2.cell? ⟨b, 0, none⟩ = some (.pointer (some ⟨b, 0, none⟩)) := by rw [Lib.cell_of_heap hb2]; rfl
  have d1 : w2.cell? ⟨b, 1, none⟩ = some v := by rw [Lib.cell_of_heap hb2]; rfl
  have f1 : w2.frozen? ⟨b, 1, none⟩ = false := Lib.frozen_of_heap hb2 1
  have hs2 : Sib w1 w2 := fun k cs T hk h1 h2 => by
    refine hgrow.block k ?_ ?_
    · rcases Nat.lt_or_ge k w1.heap.size with h' | h'
      · exact h'
      · simp [Array.getElem?_eq_none h'] at hk
    · exact fun e => Lib.ownBlock_ne hown hk h2 e.symm
  have hko2 : KeepsOthers w1 w2 := KeepsOthers.of_grownBy hgrow (fun j o hj ho => by
    rcases hown.2 with ⟨rfl, _⟩ | ⟨g, cap, cur, rfl, _, hg, _⟩
    · simp [Value.ownBlock] at hj
    · simp only [Value.ownBlock, Option.some.injEq] at hj
      subst hj
      rw [hg] at ho
      cases ho; rfl)
  obtain ⟨ao, n', cap, rfl⟩ : ∃ ao n' cap, v' = .slice ao n' cap := by
    rcases hown'.2 with ⟨hv, _⟩ | ⟨g, cap, cur, hv, _⟩
    · exact ⟨_, _, _, hv⟩
    · exact ⟨_, _, _, hv⟩
  go_wp2
  go_ret2
  refine ⟨rfl, ?_, ?_, (hs1.trans hs2).trans (Sib.set_ hb2 1 _), (hko1.trans hko2).trans (KeepsOthers.setCell _ _ _)⟩
  · exact Lib.BuilderAt.put (T := 57) (e := 5) hB hb2 (bs' := bs ++ Lib.strCells s) (by simpa [Lib.strCells_length] using hown') (by decide)
  · exact (hb1.grown hgrow (by have := hb1.size; omega) (fun k hk => (hown.lt k hk).1)).setCell (p := ⟨b, 1, none⟩) hB _

/-- A builder stays where the blocks of its types stay. -/
theorem IsBuilder_keep {w w1 : World} {B b : Nat} {bs : List Value} (h : Lib.IsBuilder 57 5 B b bs w) (hk : ∀ (k : Nat) (cs : Array Value) (T : TypeId), w.heap[k]? = some (.cells cs T (0, 0)) → (T = 57 ∨ T = 5) → w1.heap[k]? = some (.cells cs T (0, 0))) : Lib.IsBuilder 57 5 B b bs w1 := by
  have key : ∀ p, Lib.BuilderAt 57 5 B b p bs w → Lib.BuilderAt 57 5 B b p bs w1 := by
    intro p h
    obtain ⟨hB, v, hv, hown, hne⟩ := h
    refine ⟨hB, v, hk _ _ _ hv (.inl rfl), ?_, hne⟩
    refine ⟨hown.1, ?_⟩
    rcases hown.2 with hn | ⟨g, cap, cur, rfl, hbg, hgg, rest⟩
    · exact .inl hn
    · exact .inr ⟨g, cap, cur, rfl, hbg, hk _ _ _ hgg (.inr rfl), rest⟩
  exact h.elim (fun x => .inl (key _ x)) (fun x => .inr (key _ x))
theorem IsBuilder_line {W W' : World} {B b c : Nat} {bs : List Value} {v : Value} (h : Lib.IsBuilder 57 5 B b bs W) (hm : LineMv c W W') (hc : W.heap[c]? = some (.cells #[v] 9 (0, 0))) : Lib.IsBuilder 57 5 B b bs W' :=
  IsBuilder_keep h fun k cs T hk hT => hm.blk hk (by
    rintro rfl
    rw [hk] at hc
    simp only [Option.some.injEq, Obj.cells.injEq] at hc
    obtain ⟨_, h2, _⟩ := hc
    rcases hT with h3 | h3 <;> rw [h3] at h2 <;> exact absurd h2 (by decide))
theorem IsBuilder_putObj {W : World} {B b l : Nat} {bs : List Value} {o o0 : Obj} (h : Lib.IsBuilder 57 5 B b bs W) (ho : W.heap[l]? = some o0) (hc : o0.isCells = false) : Lib.IsBuilder 57 5 B b bs (W.putObj l o) :=
  IsBuilder_keep h fun k cs T hk hT => blk_putObj hk (by
    rintro rfl
    rw [hk] at ho
    cases ho
    exact absurd hc (by simp [Obj.isCells]))
theorem builderString (B b : Nat) (l : List UInt8) (w : World) (h : Lib.IsBuilder 57 5 B b (Lib.byteCells l) w) (hBw : B ≤ w.heap.size) :
    Calls Tryd.prog 30 #[.pointer (some ⟨b, 0, none⟩)] w fun e w' => e = .returned (.string (mkS l)) ∧ Below B w w' ∧ Lib.OthersKept 5 (some b) w w' :=
  (Any.Builder_String_any_k Tryd.lays169 Tryd.Builder_Extra_169 B b l w (Lib.IsBuilderF.of h) hBw).mono fun e w' hx => ⟨hx.1, hx.2.2⟩
theorem others_deferred {w w' : World} {b D : Nat} {o : Obj} (h : Lib.OthersKept 5 (some b) w w') (hD : w.heap[D]? = some o) (hb : D ≠ b) (ho : ∀ c fz, o ≠ .cells c 5 fz) : w'.heap[D]? = some o :=
  h D o hD (fun e => hb (Option.some.inj e)) ho
end Go.Proofs.YtfeciafdioepiaaDoor
set_option linter.unusedVariables false
set_option linter.unusedSimpArgs false
namespace Go.Proofs.YtfeciafdioepiaaDoor
open Go.RowKit Go.Shelf Go.Proofs Go.Proofs.YtfeciafdioepiaaDoorW.PrintWords Go.Proofs.YtfeciafdioepiaaDoorW.PrintMore Go.Proofs.YtfeciafdioepiaaDoor.PA
attribute [local go_sem] Oper.semAt_some

/-- The bytes of lines with their ends. -/
def costL (xs : List (Nat × List UInt8)) : Nat := (xs.map fun x => x.2.length + 1).sum
theorem costL_append (a b : List (Nat × List UInt8)) : costL (a ++ b) = costL a + costL b := by simp [costL]
theorem costL_lines (f : Nat) : ∀ (i : Nat) (l : List UInt8), costL (linesG f i l) ≤ l.length + 1 := by
  induction f with
  | zero => intro i l; simp [linesG, costL]
  | succ f ih =>
    intro i l
    by_cases h : l = []
    · subst h; rw [linesG_nil]; simp [costL]
    · rw [linesG_cons h]
      have hp : 0 < l.length := List.length_pos_iff.2 h
      have h1 := ih (i + 1) (l.drop (lineN l + 1))
      have hle := lineN_le l
      have hc : costL ((i, l.take (lineN l)) :: linesG f (i + 1) (l.drop (lineN l + 1))) = ((l.take (lineN l)).length + 1) + costL (linesG f (i + 1) (l.drop (lineN l + 1))) := by simp [costL]
      rw [hc, List.length_take]
      rw [List.length_drop] at h1
      by_cases h2 : l.length ≤ lineN l + 1
      · have h3 : l.drop (lineN l + 1) = [] := List.drop_eq_nil_of_le h2
        rw [h3, linesG_nil]
        simp [costL]; omega
      · omega
theorem costL_pre {pre : List (Nat × List UInt8)} {s : ByteArray} (h : pre <+: linesU s.data.toList) : costL pre ≤ s.size + 1 := by
  obtain ⟨r, hr⟩ := h
  have h1 := costL_lines s.data.toList.length 0 s.data.toList
  have h2 : s.data.toList.length = s.size := by simp
  have h3 : costL (pre ++ r) ≤ s.data.toList.length + 1 := by rw [hr]; exact h1
  rw [costL_append] at h3
  omega
end Go.Proofs.YtfeciafdioepiaaDoor
set_option linter.unusedVariables false
set_option linter.unusedSimpArgs false
namespace Go.Proofs.YtfeciafdioepiaaDoor
open Go.RowKit Go.Shelf Go.Proofs Go.Proofs.YtfeciafdioepiaaDoorW.PrintWords Go.Proofs.YtfeciafdioepiaaDoorW.PrintMore Go.Proofs.YtfeciafdioepiaaDoor.PA
attribute [local go_sem] Oper.semAt_some

/-- A quoted line. -/
def quoteL (l : List UInt8) : List UInt8 := if l = [] ∨ 0 < markN l then 62 :: l else 62 :: 32 :: l
theorem quoteL_len (l : List UInt8) : (quoteL l).length ≤ l.length + 2 := by unfold quoteL; split <;> simp
set_option maxHeartbeats 1000000 in
set_option maxRecDepth 100000 in
theorem quoted_any (l : List UInt8) (w : World) (hl : l.length ≤ 1000000) : Calls Tryd.prog 69 #[.string (mkS l)] w fun e w' => e = .returned (.string (mkS (quoteL l))) ∧ Drawn0 w w' := by
  have hsz : (mkS l).size = l.length := mkS_size l
  have HL := Lib.hid (fun w => level_any (mkS l) w (by omega))
  have hq1 : (9223372036854775807 < 1 + (mkS l).size) = False := eq_false (by omega)
  have hq2 : (9223372036854775807 < 2 + (mkS l).size) = False := eq_false (by omega)
  have hc1 : (⟨#[62]⟩ : ByteArray) ++ mkS l = mkS (62 :: l) := mkS_append [62] l
  have hc2 : (⟨#[62, 32]⟩ : ByteArray) ++ mkS l = mkS (62 :: 32 :: l) := mkS_append [62, 32] l
  have htl : (mkS l).toList = l := toList_mk l
  by_cases h1 : l = []
  · have hq : quoteL l = 62 :: l := by unfold quoteL; rw [if_pos (.inl h1)]
    rw [hq, ← hc1]
    have c3b0 : ((mkS l).toList == ([] : List UInt8)) = true := by rw [htl]; exact beq_iff_eq.mpr h1
    generalize mkS l = a0 at *
    clear hc1 hc2 hq h1 htl
    go_enter Tryd.func69, Tryd.ntmps69
    go_wp2_with (go_at_call 15; refine (HL.out _).mono ?_; rintro e w' ⟨rfl, hd⟩; obtain ⟨nq, rfl⟩ := hd.1)
    go_ret
    exact ⟨rfl, drawn_of_drewN _ _⟩
  · have c3b0 : ((mkS l).toList == ([] : List UInt8)) = false := by rw [htl]; exact beq_eq_false_iff_ne.mpr h1
    by_cases h2 : 0 < markN l
    · have hq : quoteL l = 62 :: l := by unfold quoteL; rw [if_pos (.inr h2)]
      rw [hq, ← hc1]
      have c5 : decide ((0 : Int) < (markN (mkS l).data.toList : Int)) = true := decide_eq_true (by rw [mkS_toList]; omega)
      have c5' : decide (0 < markN (mkS l).data.toList) = true := decide_eq_true (by rw [mkS_toList]; omega)
      generalize mkS l = a0 at *
      clear hc1 hc2 hq h1 htl h2
      go_enter Tryd.func69, Tryd.ntmps69
      go_wp2_with (go_at_call 15; refine (HL.out _).mono ?_; rintro e w' ⟨rfl, hd⟩; obtain ⟨nq, rfl⟩ := hd.1)
      go_ret
      exact ⟨rfl, drawn_of_drewN _ _⟩
    · have hq : quoteL l = 62 :: 32 :: l := by unfold quoteL; rw [if_neg (by simp [h1, h2])]
      rw [hq, ← hc2]
      have c5 : decide ((0 : Int) < (markN (mkS l).data.toList : Int)) = false := decide_eq_false (by rw [mkS_toList]; omega)
      have c5' : decide (0 < markN (mkS l).data.toList) = false := decide_eq_false (by rw [mkS_toList]; omega)
      generalize mkS l = a0 at *
      clear hc1 hc2 hq h1 htl h2
      go_enter Tryd.func69, Tryd.ntmps69
      go_wp2_with (go_at_call 15; refine (HL.out _).mono ?_; rintro e w' ⟨rfl, hd⟩; obtain ⟨nq, rfl⟩ := hd.1)
      go_ret
      exact ⟨rfl, drawn_of_drewN _ _⟩

set_option maxHeartbeats 1000000 in
set_option maxRecDepth 100000 in
/-- The closure that adds a quoted line. -/
theorem add_any (B b : Nat) (bs : List Value) (l : List UInt8) (w : World) (hl : l.length ≤ 1000000) (h : Lib.IsBuilder 57 5 B b bs w) (hlen : bs.length + l.length + 3 ≤ 140737488355328) (hBw : B ≤ w.heap.size) :
    Calls Tryd.prog 68 #[.string (mkS l), .pointer (some ⟨b, 0, none⟩)] w fun e w' => e = .returned (.bool (decide (((quoteL l).length : Int) ≤ 998))) ∧
      (Lib.IsBuilder 57 5 B b (bs ++ Lib.byteCells (quoteL l ++ [10])) w' ∧ Below B w w' ∧ Sib w w' ∧ KeepsOthers w w') := by
  have hql := quoteL_len l
  have HQ := Lib.hid (fun w => quoted_any l w hl)
  have hsz : (mkS (quoteL l)).size = (quoteL l).length := mkS_size _
  have HW := Lib.hid (fun n => writeString3 B b bs (mkS (quoteL l ++ [10])) (w.drewN n) (IsBuilder_keep h (fun _ _ _ h _ => h)) (by rw [mkS_size]; simp; omega) hBw)
  have hq1 : (9223372036854775807 < (mkS (quoteL l)).size + 1) = False := eq_false (by omega)
  have hcat : mkS (quoteL l) ++ (⟨#[10]⟩ : ByteArray) = mkS (quoteL l ++ [10]) := mkS_append _ _
  have hst : Lib.strCells (mkS (quoteL l ++ [10])) = Lib.byteCells (quoteL l ++ [10]) := by rw [str_mk, mkS_toList]
  have Hst := Lib.hid hst
  rw [← hsz]
  have Hcat := Lib.hid hcat
  clear hst hcat hql hsz
  go_enter Tryd.func68, Tryd.ntmps68
  go_wp2_with (first
    | (go_at_call 69; refine (HQ.out _).mono ?_; rintro e w' ⟨rfl, hd⟩; obtain ⟨nq, rfl⟩ := hd.1)
    | (go_at_call 29; rw [Hcat.out]; refine (HW.out _).mono ?_; rintro e w3 ⟨rfl, hb3, hbl3, hsib3, hko3⟩; have HB3 := Aside0.mk hb3; have HBL3 := Aside0.mk hbl3; have HS3 := Aside0.mk hsib3; have HK3 := Aside0.mk hko3; clear hb3 hbl3 hsib3 hko3))
  go_ret
  refine ⟨rfl, ?_, (pw_below_drewN (Below.refl B w) _).trans HBL3.out, fun k cs T hk h1 h2 => HS3.out k cs T hk h1 h2, ⟨HK3.out.size, fun k o hk ho => HK3.out.same k o hk ho⟩⟩
  rw [← Hst.out]
  exact .inr HB3.out
end Go.Proofs.YtfeciafdioepiaaDoor
set_option linter.unusedVariables false
set_option linter.unusedSimpArgs false
namespace Go.Proofs.YtfeciafdioepiaaDoor
open Go.RowKit Go.Shelf Go.Proofs Go.Proofs.YtfeciafdioepiaaDoorW.PrintWords Go.Proofs.YtfeciafdioepiaaDoorW.PrintMore Go.Proofs.YtfeciafdioepiaaDoor.PA
attribute [local go_sem] Oper.semAt_some

/-- The quoted lines, joined. -/
def quoteAll (xs : List (Nat × List UInt8)) : List UInt8 := xs.flatMap fun x => quoteL x.2 ++ [10]
theorem quoteAll_len (xs : List (Nat × List UInt8)) : (quoteAll xs).length ≤ 3 * costL xs := by
  induction xs with
  | nil => simp [quoteAll, costL]
  | cons x r ih =>
    have hc : costL (x :: r) = x.2.length + 1 + costL r := by simp [costL]
    have hq : quoteAll (x :: r) = quoteL x.2 ++ [10] ++ quoteAll r := rfl
    have := quoteL_len x.2
    rw [hq, hc]; simp; omega
def longQ (x : Nat × List UInt8) : Bool := decide (998 < (quoteL x.2).length)
def quoteR (xs : List (Nat × List UInt8)) : ByteArray × Int := if xs.any longQ = true then (⟨#[]⟩, 5) else if 65536 < (quoteAll xs).length then (⟨#[]⟩, 5) else (mkS (quoteAll xs), 0)

theorem two_results {w W : World} {D : Nat} {t : ByteArray} {c : Int} (n : Nat) (h0 : W.heap[n]? = some (.cells #[.string ⟨#[]⟩] 9 (0, 0))) (h1 : W.heap[n + 1]? = some (.cells #[.int .i64 0] 23 (0, 0))) (hD : n + 1 < D) :
    (((W.setCell ⟨n, 0, none⟩ (.string t)).setCell ⟨n + 1, 0, none⟩ (.int .i64 c)).putObj D (.deferred none)).cell? ⟨n, 0, none⟩ = some (.string t) ∧
    (((W.setCell ⟨n, 0, none⟩ (.string t)).setCell ⟨n + 1, 0, none⟩ (.int .i64 c)).putObj D (.deferred none)).cell? ⟨n + 1, 0, none⟩ = some (.int .i64 c) := by
  have a0 := blk_far (blk_put h0 0 (.string t) rfl) (p := ⟨n + 1, 0, none⟩) (by simp) (.int .i64 c)
  have a1 := blk_put (blk_far h1 (p := ⟨n, 0, none⟩) (by simp) (.string t)) 0 (.int .i64 c) rfl
  exact ⟨(blk_cell (blk_putObj a0 (by omega)) 0).trans rfl, (blk_cell (blk_putObj a1 (by omega)) 0).trans rfl⟩

set_option maxHeartbeats 1000000 in
set_option maxRecDepth 100000 in
theorem quote_main (s : ByteArray) (w : World) (hs : s.size ≤ 1000000) (k : Nat) (a : Int) (hcb : PC.article_CheckBody.f k s = some (a, 0)) :
    Calls Tryd.prog 37 #[.string s] w fun e w' => e = .returned (.tuple #[.string (quoteR (linesU s.data.toList)).1, .int .i64 (quoteR (linesU s.data.toList)).2]) ∧ Below w.heap.size w w' := by
  have HC := Lib.hid (fun w => PC.article_CheckBody.calls k s a 0 w hcb)
  clear hcb
  have hr0 := blk_alloc (heap_alloc_last w (.cells #[.string ⟨#[]⟩] 9)) (.cells #[.int .i64 0] 23)
  have hr1 : ((w.alloc (.cells #[.string ⟨#[]⟩] 9)).alloc (.cells #[.int .i64 0] 23)).heap[w.heap.size + 1]? = some (.cells #[.int .i64 0] 23 (0, 0)) := by
    have := heap_alloc_last (w.alloc (.cells #[.string ⟨#[]⟩] 9)) (.cells #[.int .i64 0] 23)
    rwa [World.size_alloc] at this
  obtain ⟨R, hR⟩ : ∃ R, quoteR (linesU s.data.toList) = R := ⟨_, rfl⟩
  rw [hR]
  have HRR := Lib.hid hR
  clear hR
  have HR0 := Aside0.mk hr0
  have HR1 := Aside0.mk hr1
  clear hr0 hr1
  refine (callsIn_wide (n := 3)).1 ?_
  refine callsIn_of_wp_marks Tryd.func37 rfl trivial ?_ rfl
  simp only [Tryd.ntmps37, List.size_toArray, List.length_cons, List.length_nil, Nat.reduceAdd, Nat.reduceSub, Array.replicate_succ, Array.replicate_zero, List.push_toArray, List.append_toArray, List.nil_append, List.cons_append]
  gi_wp2_with (first
    | (refine ⟨trivial, ?_⟩; gi_at_call 67; refine (callsIn_wide.2 (HC.out _)).mono ?_; rintro e w1 ⟨rfl, hb1⟩; have hc0 := blk_below HR0.out hb1; have hc1 := blk_below HR1.out hb1; have hlt1 := blk_lt hc1; have HC0 := Aside0.mk hc0; have HC1 := Aside0.mk hc1; have HB1 := Aside0.mk ((((Below.refl _ w).alloc (Nat.le_refl _) (.cells #[.string ⟨#[]⟩] 9)).alloc (by simp) (.cells #[.int .i64 0] 23)).trans (hb1.mono (by simp; omega))); clear hb1 hc1 hc0)
    | (refine ⟨trivial, ?_⟩; gi_at_call 70; refine (callsIn_wide.2 (lines_any s _)).mono ?_; rintro e w' ⟨rfl, rfl⟩))
  have hb0 : Lib.IsBuilder 57 5 w.heap.size w1.heap.size (Lib.byteCells []) (w1.alloc (.cells #[.pointer none, .slice none 0 0] 57)) := fresh_builder (by omega) (heap_alloc_last w1 _)
  have hb : Lib.IsBuilder 57 5 w.heap.size w1.heap.size (Lib.byteCells []) (((w1.alloc (.cells #[.pointer none, .slice none 0 0] 57)).alloc (.cells #[.func (.func 68) #[] #[.pointer (some ⟨w1.heap.size, 0, none⟩)]] 27)).alloc (.cells #[.string s] 9)) := IsBuilder_below (IsBuilder_below hb0 ((Below.refl _ _).alloc (Nat.le_refl _) _)) ((Below.refl _ _).alloc (Nat.le_refl _) _)
  have hf : (((w1.alloc (.cells #[.pointer none, .slice none 0 0] 57)).alloc (.cells #[.func (.func 68) #[] #[.pointer (some ⟨w1.heap.size, 0, none⟩)]] 27)).alloc (.cells #[.string s] 9)).heap[w1.heap.size + 1]? = some (.cells #[.func (.func 68) #[] #[.pointer (some ⟨w1.heap.size, 0, none⟩)]] 27 (0, 0)) := by
    have := heap_alloc_last (w1.alloc (.cells #[.pointer none, .slice none 0 0] 57)) (.cells #[.func (.func 68) #[] #[.pointer (some ⟨w1.heap.size, 0, none⟩)]] 27)
    rw [World.size_alloc] at this
    exact blk_alloc this _
  have hl : (((w1.alloc (.cells #[.pointer none, .slice none 0 0] 57)).alloc (.cells #[.func (.func 68) #[] #[.pointer (some ⟨w1.heap.size, 0, none⟩)]] 27)).alloc (.cells #[.string s] 9)).heap[w1.heap.size + 1 + 1]? = some (.cells #[.string s] 9 (0, 0)) := by
    have := heap_alloc_last ((w1.alloc (.cells #[.pointer none, .slice none 0 0] 57)).alloc (.cells #[.func (.func 68) #[] #[.pointer (some ⟨w1.heap.size, 0, none⟩)]] 27)) (.cells #[.string s] 9)
    rwa [World.size_alloc, World.size_alloc] at this
  have hc0 := blk_alloc (blk_alloc2 (o1 := .cells #[.pointer none, .slice none 0 0] 57) (o2 := (.cells #[.func (.func 68) #[] #[.pointer (some ⟨w1.heap.size, 0, none⟩)]] 27)) HC0.out) (.cells #[.string s] 9)
  have hc1 := blk_alloc (blk_alloc2 (o1 := .cells #[.pointer none, .slice none 0 0] 57) (o2 := (.cells #[.func (.func 68) #[] #[.pointer (some ⟨w1.heap.size, 0, none⟩)]] 27)) HC1.out) (.cells #[.string s] 9)
  have hB0 : Below w.heap.size w (((w1.alloc (.cells #[.pointer none, .slice none 0 0] 57)).alloc (.cells #[.func (.func 68) #[] #[.pointer (some ⟨w1.heap.size, 0, none⟩)]] 27)).alloc (.cells #[.string s] 9)) := ((HB1.out.alloc HB1.out.size _).alloc (by simp; omega) _).alloc (by simp; omega) _
  obtain ⟨W0, hW0⟩ : ∃ W0, ((w1.alloc (.cells #[.pointer none, .slice none 0 0] 57)).alloc (.cells #[.func (.func 68) #[] #[.pointer (some ⟨w1.heap.size, 0, none⟩)]] 27)).alloc (.cells #[.string s] 9) = W0 := ⟨_, rfl⟩
  have hsz : W0.heap.size = w1.heap.size + 3 := by rw [← hW0]; simp
  try simp only [World.size_alloc]
  rw [hW0] at hc0 hc1 hb hl hf hB0 ⊢
  have Hsz := Lib.hid hsz
  clear hW0 hsz hb0
  refine range_law2 (gf := 94) (lb := #[.pointer (some ⟨w1.heap.size + 1 + 1, 0, none⟩)]) rfl (enters_of Tryd.func94 (by kernel_rfl) rfl) (lines_iter s (w1.heap.size + 1 + 1) (by omega)) (fun _ _ h => h.others) (fun _ => rfl)
    (fun pre W => (Lib.IsBuilder 57 5 w.heap.size w1.heap.size (Lib.byteCells (quoteAll pre)) W ∧ W.heap[w.heap.size]? = some (.cells #[.string ⟨#[]⟩] 9 (0, 0)) ∧ W.heap[w.heap.size + 1]? = some (.cells #[.int .i64 0] 23 (0, 0)) ∧
      W.heap[w1.heap.size + 1]? = some (.cells #[.func (.func 68) #[] #[.pointer (some ⟨w1.heap.size, 0, none⟩)]] 27 (0, 0)) ∧ pre <+: linesU s.data.toList ∧ pre.any longQ = false) ∧ (∃ v, W.heap[w1.heap.size + 1 + 1]? = some (.cells #[v] 9 (0, 0))) ∧ Below w.heap.size w W)
    (fun c pre W => c = .ret ∧ pre.any longQ = true ∧ W.heap[w.heap.size]? = some (.cells #[.string ⟨#[]⟩] 9 (0, 0)) ∧ W.heap[w.heap.size + 1]? = some (.cells #[.int .i64 5] 23 (0, 0)) ∧ Below w.heap.size w W)
    (fun pre W W' h hm => by
      obtain ⟨v, hv⟩ := h.2.1
      exact ⟨⟨IsBuilder_line h.1.1 hm hv, hm.blk h.1.2.1 (by omega), hm.blk h.1.2.2.1 (by omega), hm.blk h.1.2.2.2.1 (by omega), h.1.2.2.2.2⟩, hm.own h.2.1, hm.below (by omega) h.2.2⟩) (fun pre W h => h.2.1)
    (fun pre W l o hl ho h => by
      obtain ⟨o0, ho0, hoc⟩ := ho
      have := Hsz.out
      obtain ⟨v, hv⟩ := h.2.1
      exact ⟨⟨IsBuilder_putObj h.1.1 ho0 hoc, blk_putObj h.1.2.1 (by omega), blk_putObj h.1.2.2.1 (by omega), blk_putObj h.1.2.2.2.1 (by omega), h.1.2.2.2.2⟩, ⟨v, blk_putObj hv (by omega)⟩, below_putObj h.2.2 (Nat.le_refl _) (by omega) _⟩)
    (fun c pre W l o hl ho h => by
      have := Hsz.out
      exact ⟨h.1, h.2.1, blk_putObj h.2.2.1 (by omega), blk_putObj h.2.2.2.1 (by omega), below_putObj h.2.2.2.2 (Nat.le_refl _) (by omega) _⟩)
    (fun o o' => ⟨⟨IsBuilder_below (IsBuilder_below hb ((Below.refl _ _).alloc (Nat.le_refl _) _)) ((Below.refl _ _).alloc (Nat.le_refl _) _), blk_alloc2 hc0, blk_alloc2 hc1, blk_alloc2 hf, List.nil_prefix, rfl⟩, ⟨_, blk_alloc2 hl⟩, (hB0.alloc (by have := Hsz.out; omega) _).alloc (by have := Hsz.out; simp; omega) _⟩)
    (fun o o' => blk_alloc2 hl)
    (fun x => { tmps := #[.string s, undef, .pointer (some ⟨w.heap.size, 0, none⟩), .pointer (some ⟨w.heap.size + 1, 0, none⟩), .int .i64 a, .int .i64 0, .pointer (some ⟨w1.heap.size, 0, none⟩), .pointer (some ⟨w1.heap.size + 1, 0, none⟩), undef, .string (mkS x.2), .tuple #[.int .i64 a, .int .i64 0], .string s, .tuple #[.int .i64 a, .int .i64 0], .int .i64 a, .int .i64 0, .int .i64 0, .bool false, undef, .func (.func 68) #[] #[.pointer (some ⟨w1.heap.size, 0, none⟩)], .string s, .func (.func 94) #[] #[.pointer (some ⟨w1.heap.size + 1 + 1, 0, none⟩)], .int .i64 x.1, .string (mkS x.2), undef, undef, undef, undef, undef, undef, undef], defers := [] }) ?assign ?body ?done ?stop
  case assign =>
    intro l x W K hK
    gi_wp2
    simpa using hK
  case body =>
    rintro l pre x W ⟨⟨hbd, hcn0, hcn1, hfn, hp, hany⟩, hbx, hB⟩ hlt
    have hcost := costL_pre hlt
    have hslen := quoteAll_len pre
    rw [costL_append] at hcost
    have hx1 : costL [x] = x.2.length + 1 := by simp [costL]
    have hql := quoteL_len x.2
    have hstr : quoteAll (pre ++ [x]) = quoteAll pre ++ (quoteL x.2 ++ [10]) := by simp [quoteAll]
    have hanyx : (pre ++ [x]).any longQ = longQ x := by rw [List.any_append, hany]; simp
    have hltc := blk_lt hcn0
    have HA := Lib.hid (add_any w.heap.size w1.heap.size (Lib.byteCells (quoteAll pre)) x.2 W (by omega) hbd (by simp [Lib.byteCells]; omega) (Nat.le_of_lt hltc))
    have Hstr := Lib.hid hstr
    have hcellf : W.cell? ⟨w1.heap.size + 1, 0, none⟩ = some (.func (.func 68) #[] #[.pointer (some ⟨w1.heap.size, 0, none⟩)]) := (blk_cell hfn 0).trans rfl
    have HCN0 := Aside0.mk hcn0
    have HCN1 := Aside0.mk hcn1
    have HFN := Aside0.mk hfn
    have HBX := Aside0.mk hbx
    have HB := Aside0.mk hB
    clear hstr hbd hbx hB hcost hslen hx1 hany hcn0 hcn1 hfn
    by_cases h9 : ((quoteL x.2).length : Int) ≤ 998
    · have hlq : longQ x = false := by unfold longQ; exact decide_eq_false (by omega)
      have hdec : decide (((quoteL x.2).length : Int) ≤ 998) = true := decide_eq_true h9
      rw [hdec] at HA
      rw [hlq] at hanyx
      have Hany := Lib.hid hanyx
      clear hanyx hlq hdec h9 hql
      gi_wp2_with (refine ⟨trivial, ?_⟩; gi_at_call 68; refine (CallsIn.inRound l (callsIn_wide.2 HA.out)).mono ?_; rintro e w3 ⟨rfl, hb3, hbl3, hsib3, hko3⟩; have HB3 := Aside0.mk hb3; have HBL3 := Aside0.mk hbl3; have HS3 := Aside0.mk hsib3; have HK3 := Aside0.mk hko3; clear hb3 hbl3 hsib3 hko3)
      refine ⟨HK3.out, ⟨⟨?_, (HS3.out _ _ 9 HCN0.out (by decide) (by decide)).trans HCN0.out, (HS3.out _ _ 23 HCN1.out (by decide) (by decide)).trans HCN1.out, (HS3.out _ _ 27 HFN.out (by decide) (by decide)).trans HFN.out, hlt, Hany.out⟩, ?_, HB.out.trans HBL3.out⟩⟩
      · rw [Hstr.out]
        have h1 : Lib.byteCells (quoteAll pre ++ (quoteL x.2 ++ [10])) = Lib.byteCells (quoteAll pre) ++ Lib.byteCells (quoteL x.2 ++ [10]) := by simp [Lib.byteCells]
        rw [h1]
        exact HB3.out
      · obtain ⟨v, hv⟩ := HBX.out
        exact ⟨v, (HS3.out _ _ 9 hv (by decide) (by decide)).trans hv⟩
    · have hlq : longQ x = true := by unfold longQ; exact decide_eq_true (by omega)
      have hdec : decide (((quoteL x.2).length : Int) ≤ 998) = false := decide_eq_false h9
      rw [hdec] at HA
      rw [hlq] at hanyx
      have Hany := Lib.hid hanyx
      clear hanyx hlq hdec h9 hql
      gi_wp2_with (refine ⟨trivial, ?_⟩; gi_at_call 68; refine (CallsIn.inRound l (callsIn_wide.2 HA.out)).mono ?_; rintro e w3 ⟨rfl, hb3, hbl3, hsib3, hko3⟩; have hcm0 := (hsib3 _ _ 9 HCN0.out (by decide) (by decide)).trans HCN0.out; have hcm1 := (hsib3 _ _ 23 HCN1.out (by decide) (by decide)).trans HCN1.out; have hce0 : w3.cell? ⟨w.heap.size, 0, none⟩ = some (.string ⟨#[]⟩) := (blk_cell hcm0 0).trans rfl; have hce1 : w3.cell? ⟨w.heap.size + 1, 0, none⟩ = some (.int .i64 0) := (blk_cell hcm1 0).trans rfl; have hfz0 := blk_frozen hcm0 0; have hfz1 := blk_frozen hcm1 0; have HCM0 := Aside0.mk hcm0; have HCM1 := Aside0.mk hcm1; have HBL3 := Aside0.mk hbl3; have HK3 := Aside0.mk hko3; clear hb3 hbl3 hsib3 hko3 hcm0 hcm1)
      refine ⟨(HK3.out.trans (KeepsOthers.setCell _ _ _)).trans (KeepsOthers.setCell _ _ _), rfl, Hany.out, blk_far (blk_put HCM0.out 0 _ rfl) (p := ⟨w.heap.size + 1, 0, none⟩) (by simp) _, blk_put (blk_far HCM1.out (p := ⟨w.heap.size, 0, none⟩) (by simp) _) 0 _ rfl,
        ((HB.out.trans HBL3.out).setCell (p := ⟨w.heap.size, 0, none⟩) (Nat.le_refl _) _).setCell (p := ⟨w.heap.size + 1, 0, none⟩) (Nat.le_succ _) _⟩
  case done =>
    rintro D ys W hD rfl ⟨⟨hbd, hcn0, hcn1, hfn, _, hany⟩, _, hB⟩ hK
    have hw0 := Hsz.out
    have hq0 : quoteR (linesU s.data.toList) = if 65536 < (quoteAll (linesU s.data.toList)).length then (⟨#[]⟩, 5) else (mkS (quoteAll (linesU s.data.toList)), 0) := by unfold quoteR; rw [if_neg (by simp [hany])]
    have HRq := Lib.hid (HRR.out.symm.trans hq0)
    clear HRR
    generalize quoteAll (linesU s.data.toList) = L at *
    have hln := Tryd.Builder_Len _ _ _ _ hbd
    rw [Lib.byteCells_length] at hln
    have HLN := Lib.hid hln
    have hce0 : W.cell? ⟨w.heap.size, 0, none⟩ = some (.string ⟨#[]⟩) := (blk_cell hcn0 0).trans rfl
    have hce1 : W.cell? ⟨w.heap.size + 1, 0, none⟩ = some (.int .i64 0) := (blk_cell hcn1 0).trans rfl
    have hfz0 := blk_frozen hcn0 0
    have hfz1 := blk_frozen hcn1 0
    have HCN0 := Aside0.mk hcn0
    have HCN1 := Aside0.mk hcn1
    have HBD := Aside0.mk hbd
    have HB := Aside0.mk hB
    have HKK := Aside0.mk hK
    clear hln hcn0 hcn1 hbd hB hK hq0 hany hfn hc0 hc1 hb hf hl hB0
    by_cases hlong : 65536 < L.length
    · obtain rfl : R = (⟨#[]⟩, 5) := by rw [HRq.out, if_pos hlong]
      have hd : decide ((65536 : Int) < (L.length : Int)) = true := decide_eq_true (by omega)
      have hd' : decide (65536 < L.length) = true := decide_eq_true hlong
      clear hlong
      gi_wp2_with (first | (refine ⟨trivial, ?_⟩; gi_at_call 71; refine (callsIn_wide.2 HLN.out).mono ?_; rintro e w2 ⟨rfl, rfl⟩))
      obtain ⟨hc5, hc6⟩ := two_results (w := w) (D := D) (t := ⟨#[]⟩) (c := 5) w.heap.size HCN0.out HCN1.out (by omega)
      have hKe := (KeepsOthers.setCell _ ⟨w.heap.size + 1, 0, none⟩ (.int .i64 5)).same D _ ((KeepsOthers.setCell _ ⟨w.heap.size, 0, none⟩ (.string ⟨#[]⟩)).same D _ (HKK.out) rfl) rfl
      refine ⟨by simp, .inl ⟨_, _, rfl, run_takeDeferred hKe, ?_⟩⟩
      refine ⟨.tuple #[.string ⟨#[]⟩, .int .i64 5], ?_, rfl, below_putObj (((HB.out).setCell (p := ⟨w.heap.size, 0, none⟩) (Nat.le_refl _) _).setCell (p := ⟨w.heap.size + 1, 0, none⟩) (Nat.le_succ _) _) (Nat.le_refl _) (by omega) _⟩
      simp [results, Tryd.f37, go_sem, hc5, hc6]
    · obtain rfl : R = (mkS L, 0) := by rw [HRq.out, if_neg hlong]
      have hd : decide ((65536 : Int) < (L.length : Int)) = false := decide_eq_false (by omega)
      have hd' : decide (65536 < L.length) = false := decide_eq_false hlong
      clear hlong
      gi_wp2_with (first
        | (refine ⟨trivial, ?_⟩; gi_at_call 71; refine (callsIn_wide.2 HLN.out).mono ?_; rintro e w2 ⟨rfl, rfl⟩)
        | (refine ⟨trivial, ?_⟩; gi_at_call 30; refine (callsIn_wide.2 (builderString _ _ _ _ HBD.out HB.out.size)).mono ?_; rintro e w2 ⟨rfl, hb2, ho2⟩; have hcm0 := others_deferred ho2 HCN0.out (by omega) (fun _ _ e => by cases e); have hcm1 := others_deferred ho2 HCN1.out (by omega) (fun _ _ e => by cases e); have hce0 : w2.cell? ⟨w.heap.size, 0, none⟩ = some (.string ⟨#[]⟩) := (blk_cell hcm0 0).trans rfl; have hce1 : w2.cell? ⟨w.heap.size + 1, 0, none⟩ = some (.int .i64 0) := (blk_cell hcm1 0).trans rfl; have hfz0 := blk_frozen hcm0 0; have hfz1 := blk_frozen hcm1 0; have HCM0 := Aside0.mk hcm0; have HCM1 := Aside0.mk hcm1; have HB2 := Aside0.mk hb2; have HO2 := Aside0.mk ho2; clear hb2 ho2 hcm0 hcm1))
      obtain ⟨hc5, hc6⟩ := two_results (w := w) (D := D) (t := (mkS L)) (c := 0) w.heap.size HCM0.out HCM1.out (by omega)
      have hKe := (KeepsOthers.setCell _ ⟨w.heap.size + 1, 0, none⟩ (.int .i64 0)).same D _ ((KeepsOthers.setCell _ ⟨w.heap.size, 0, none⟩ (.string (mkS L))).same D _ (others_deferred HO2.out HKK.out (by omega) (fun _ _ e => by cases e)) rfl) rfl
      refine ⟨by simp, .inl ⟨_, _, rfl, run_takeDeferred hKe, ?_⟩⟩
      refine ⟨.tuple #[.string (mkS L), .int .i64 0], ?_, rfl, below_putObj (((HB.out.trans HB2.out).setCell (p := ⟨w.heap.size, 0, none⟩) (Nat.le_refl _) _).setCell (p := ⟨w.heap.size + 1, 0, none⟩) (Nat.le_succ _) _) (Nat.le_refl _) (by omega) _⟩
      simp [results, Tryd.f37, go_sem, hc5, hc6]
  case stop =>
    rintro D c pre W hD hpre ⟨rfl, hany, hcn0, hcn1, hB⟩ hK
    have hw0 := Hsz.out
    have hq : quoteR (linesU s.data.toList) = (⟨#[]⟩, 5) := by
      unfold quoteR
      obtain ⟨r, hr⟩ := hpre
      rw [if_pos (by rw [← hr, List.any_append, hany]; rfl)]
    obtain rfl : R = (⟨#[]⟩, 5) := HRR.out.symm.trans hq
    clear hq hany hc0 hc1 hb hf hl hB0
    gi_wp2
    have hc5 : (W.putObj D (.deferred none)).cell? ⟨w.heap.size, 0, none⟩ = some (.string ⟨#[]⟩) := (blk_cell (blk_putObj hcn0 (by omega)) 0).trans rfl
    have hc6 : (W.putObj D (.deferred none)).cell? ⟨w.heap.size + 1, 0, none⟩ = some (.int .i64 5) := (blk_cell (blk_putObj hcn1 (by omega)) 0).trans rfl
    refine ⟨by simp, .inl ⟨_, _, rfl, run_takeDeferred hK, ?_⟩⟩
    refine ⟨.tuple #[.string ⟨#[]⟩, .int .i64 5], ?_, rfl, below_putObj hB (Nat.le_refl _) (by omega) _⟩
    simp [results, Tryd.f37, go_sem, hc5, hc6]

def GV.Quote.f (k : Nat) (s : ByteArray) : Option (ByteArray × Int) :=
  (PC.article_CheckBody.f k s).bind fun x => if x.2 ≠ 0 then some (⟨#[]⟩, x.2) else if s.size ≤ 1000000 then some (quoteR (linesU s.data.toList)) else none
set_option maxHeartbeats 1000000 in
theorem quote_bad (s : ByteArray) (w : World) (k : Nat) (a c : Int) (hc0 : c ≠ 0) (hcb : PC.article_CheckBody.f k s = some (a, c)) :
    Calls Tryd.prog 37 #[.string s] w fun e w' => e = .returned (.tuple #[.string ⟨#[]⟩, .int .i64 c]) ∧ Below w.heap.size w w' := by
  have hcn : (c != 0) = true := bne_iff_ne.2 hc0
  have HC := Lib.hid (fun w => PC.article_CheckBody.calls k s a c w hcb)
  clear hcb hc0
  have hr0 := blk_alloc (heap_alloc_last w (.cells #[.string ⟨#[]⟩] 9)) (.cells #[.int .i64 0] 23)
  have hr1 : ((w.alloc (.cells #[.string ⟨#[]⟩] 9)).alloc (.cells #[.int .i64 0] 23)).heap[w.heap.size + 1]? = some (.cells #[.int .i64 0] 23 (0, 0)) := by
    have := heap_alloc_last (w.alloc (.cells #[.string ⟨#[]⟩] 9)) (.cells #[.int .i64 0] 23)
    rwa [World.size_alloc] at this
  have HR0 := Aside0.mk hr0
  have HR1 := Aside0.mk hr1
  clear hr0 hr1
  go_enter Tryd.func37, Tryd.ntmps37
  go_wp2_with (go_at_call 67; refine (HC.out _).mono ?_; rintro e w1 ⟨rfl, hb1⟩; have hc0 := blk_below HR0.out hb1; have hc1 := blk_below HR1.out hb1; have hce0 : w1.cell? ⟨w.heap.size, 0, none⟩ = some (.string ⟨#[]⟩) := (blk_cell hc0 0).trans rfl; have hce1 : w1.cell? ⟨w.heap.size + 1, 0, none⟩ = some (.int .i64 0) := (blk_cell hc1 0).trans rfl; have hfz0 := blk_frozen hc0 0; have hfz1 := blk_frozen hc1 0; have HC0 := Aside0.mk hc0; have HC1 := Aside0.mk hc1; have HB1 := Aside0.mk ((((Below.refl _ w).alloc (Nat.le_refl _) (.cells #[.string ⟨#[]⟩] 9)).alloc (by simp) (.cells #[.int .i64 0] 23)).trans (hb1.mono (by simp; omega))); clear hb1 hc1 hc0)
  have a0 := blk_far (blk_put HC0.out 0 (.string ⟨#[]⟩) rfl) (p := ⟨w.heap.size + 1, 0, none⟩) (by simp) (.int .i64 c)
  have a1 := blk_put (blk_far HC1.out (p := ⟨w.heap.size, 0, none⟩) (by simp) (.string ⟨#[]⟩)) 0 (.int .i64 c) rfl
  have hc5 := (blk_cell a0 0).trans rfl
  have hc6 := (blk_cell a1 0).trans rfl
  refine bodyPost_ret (v := .tuple #[.string ⟨#[]⟩, .int .i64 c]) (by simp [results, Tryd.f37, go_sem, hc5, hc6]) rfl ⟨rfl, below_set (below_set HB1.out (Nat.le_refl _)) (Nat.le_succ _)⟩
theorem GV.Quote.calls (k : Nat) (a0 : ByteArray) (r1 : ByteArray) (r2 : Int) (w : World) (h : GV.Quote.f k a0 = some (r1, r2)) :
    Calls Tryd.prog 37 #[.string a0] w fun e w' => e = .returned (.tuple #[.string r1, .int .i64 r2]) ∧ Below w.heap.size w w' := by
  unfold GV.Quote.f at h
  cases hc : PC.article_CheckBody.f k a0 with
  | none => rw [hc] at h; simp at h
  | some x =>
    obtain ⟨a, c⟩ := x
    rw [hc] at h
    simp only [Option.bind_some] at h
    by_cases h2 : c = 0
    · subst h2
      rw [if_neg (by simp)] at h
      by_cases h3 : a0.size ≤ 1000000
      · rw [if_pos h3] at h
        have h4 := Option.some.inj h
        have := quote_main a0 w h3 k a hc
        rw [h4] at this
        exact this
      · rw [if_neg h3] at h; simp at h
    · rw [if_pos h2] at h
      simp only [Option.some.injEq, Prod.mk.injEq] at h
      obtain ⟨rfl, rfl⟩ := h
      exact quote_bad a0 w k a _ h2 hc
end Go.Proofs.YtfeciafdioepiaaDoor
set_option linter.unusedVariables false
set_option linter.unusedSimpArgs false
namespace Go.Proofs.YtfeciafdioepiaaDoor
open Go.RowKit Go.Shelf Go.Proofs Go.Proofs.YtfeciafdioepiaaDoorW.PrintWords Go.Proofs.YtfeciafdioepiaaDoorW.PrintMore Go.Proofs.YtfeciafdioepiaaDoor.PA
def knF : List S74 := [⟨mkS [83, 117, 98, 106, 101, 99, 116], mkS [97]⟩]
theorem kn1 : GV.AParse.f 60 ⟨#[83, 117, 98, 106, 101, 99, 116, 58, 32, 97, 10, 10, 104, 101, 108, 108, 111, 10]⟩ = some (knF, ⟨#[104, 101, 108, 108, 111, 10]⟩, 0, 0) := by kernel_rfl
theorem kn2 : PC.article_Print.f 60 knF ⟨#[104, 101, 108, 108, 111, 10]⟩ = some (⟨#[83, 117, 98, 106, 101, 99, 116, 58, 32, 97, 10, 10, 104, 101, 108, 108, 111, 10]⟩, 0) := by decide +kernel
theorem kn3 : GV.AParse.f 60 ⟨#[83, 117, 98, 106, 101, 99, 116, 58, 32, 97, 10, 10, 120]⟩ = some ([], ⟨#[]⟩, 13, 4) := by kernel_rfl
theorem kn4 : GV.Quote.f 60 ⟨#[97, 10, 62, 32, 98, 10, 10]⟩ = some (⟨#[62, 32, 97, 10, 62, 62, 32, 98, 10, 62, 10]⟩, 0) := by decide +kernel
theorem kn5 : markN [62, 62, 32, 120] = 2 ∧ restL [62, 62, 32, 120] = [120] := by decide +kernel
theorem kn6 : (linesU [97, 10, 98]).length = 2 := by decide +kernel
end Go.Proofs.YtfeciafdioepiaaDoor
set_option linter.unusedVariables false
set_option linter.unusedSimpArgs false
namespace Go.Proofs.YtfeciafdioepiaaDoor
open Go.RowKit Go.Shelf Go.Proofs Go.Proofs.YtfeciafdioepiaaDoorW.PrintWords Go.Proofs.YtfeciafdioepiaaDoorW.PrintMore Go.Proofs.YtfeciafdioepiaaDoor.PA
attribute [local go_sem] Oper.semAt_some
set_option maxHeartbeats 4000000 in
set_option maxRecDepth 100000 in
theorem known_any (w : World) (hgm : Gm w) : Calls Tryd.prog 17 #[] w fun e w' => e = .returned (.bool true) ∧ Below w.heap.size w w' := by
  have hu76 := Tryd.underlying74
  have HGM := Aside0.mk hgm
  clear hgm
  go_enter Tryd.func17, Tryd.ntmps17
  go_wp2_with fail
  refine (GV.AParse.calls 60 _ _ _ _ _ _ HGM.out kn1).mono ?_
  rintro e w1 ⟨v1, rfl, hR1, hb1⟩
  obtain ⟨g, c1, rfl⟩ : ∃ g c, v1 = .slice (some ⟨g, 0, none⟩) knF.length c := by
    obtain ⟨inner, ho⟩ := Kd.R_own hR1
    rcases ho.2 with ⟨_, h0⟩ | ⟨g, c, cur, hv, _⟩
    · exact absurd h0 (by decide)
    · exact ⟨g, c, hv⟩
  have HR1 := Aside0.mk (Kd.R_alloc hR1 (.cells #[.slice (some ⟨g, 0, none⟩) knF.length c1, .string ⟨#[104, 101, 108, 108, 111, 10]⟩] 69))
  have HA1 := Aside0.mk (blk_new w1 (.cells #[.slice (some ⟨g, 0, none⟩) knF.length c1, .string ⟨#[104, 101, 108, 108, 111, 10]⟩] 69))
  have HB1 := Aside0.mk (below_alloc hb1 (.cells #[.slice (some ⟨g, 0, none⟩) knF.length c1, .string ⟨#[104, 101, 108, 108, 111, 10]⟩] 69))
  have HGM1 := Aside0.mk (gm_at (gm_at HGM.out hb1) ((Below.refl _ _).alloc (Nat.le_refl _) (.cells #[.slice (some ⟨g, 0, none⟩) knF.length c1, .string ⟨#[104, 101, 108, 108, 111, 10]⟩] 69)))
  clear hR1 hb1
  go_wp2_with fail
  refine (PC.article_Print.calls 60 (some ⟨g, 0, none⟩) c1 knF _ _ _ _ (Kd.R_reads' HR1.out).2.2 (Kd.R_reads' HR1.out).2.1 kn2).mono ?_
  rintro e w2 ⟨rfl, hb2⟩
  have HB2 := Aside0.mk (HB1.out.trans (hb2.mono HB1.out.size))
  have HR2 := Aside0.mk (Kd.R_below HR1.out hb2)
  have HA2 := Aside0.mk (blk_below HA1.out hb2)
  have HGM2 := Aside0.mk (gm_at HGM1.out hb2)
  clear hb2 HR1 HA1 HB1 HGM1
  go_wp2_with fail
  refine (GV.AParse.calls 60 _ _ _ _ _ _ HGM2.out kn3).mono ?_
  rintro e w3 ⟨v3, rfl, hR3, hb3⟩
  obtain ⟨A3, c3, e3⟩ := Kd.R_slice hR3
  subst e3
  have HB3 := Aside0.mk (HB2.out.trans (hb3.mono HB2.out.size))
  have HR3 := Aside0.mk (Kd.R_below HR2.out hb3)
  have HA3 := Aside0.mk (blk_below HA2.out hb3)
  clear hR3 hb3 HB2 HR2 HA2 HGM2
  go_wp2_with fail
  refine (GV.Quote.calls 60 _ _ _ _ kn4).mono ?_
  rintro e w4 ⟨rfl, hb4⟩
  have HB4 := Aside0.mk ((below_alloc HB3.out (.cells #[.slice A3 0 c3, .string ⟨#[]⟩] 69)).trans (hb4.mono (below_alloc HB3.out _).size))
  have HA4 := Aside0.mk (blk_below (blk_alloc HA3.out (.cells #[.slice A3 0 c3, .string ⟨#[]⟩] 69)) hb4)
  have hR4 := Kd.R_below (Kd.R_alloc HR3.out (.cells #[.slice A3 0 c3, .string ⟨#[]⟩] 69)) hb4
  obtain ⟨ad, e5, hx0, hx1⟩ := at_T74 (Kd.R_reads' hR4).2.2 0 (by decide) (by decide)
  injection e5 with e5
  subst e5
  have hx0' : w4.cell? ⟨g, 0, none⟩ = some (.string ⟨#[83, 117, 98, 106, 101, 99, 116]⟩) := hx0
  have hx1' : w4.cell? ⟨g, 1, none⟩ = some (.string ⟨#[97]⟩) := hx1
  have ha0 : w4.cell? ⟨w1.heap.size, 0, none⟩ = some (.slice (some ⟨g, 0, none⟩) 1 c1) := (blk_cell HA4.out 0).trans rfl
  have ha1 : w4.cell? ⟨w1.heap.size, 1, none⟩ = some (.string ⟨#[104, 101, 108, 108, 111, 10]⟩) := (blk_cell HA4.out 1).trans rfl
  clear hR4 hb4 HR3 HA3 HB3 hx0 hx1
  go_wp2_with fail
  refine (level_any ⟨#[62, 62, 32, 120]⟩ _ (by decide)).mono ?_
  rintro e w5 ⟨rfl, hd⟩
  obtain ⟨n5, rfl⟩ := hd.1
  have e1 : (⟨#[62, 62, 32, 120]⟩ : ByteArray).data.toList = [62, 62, 32, 120] := rfl
  rw [e1, kn5.1, kn5.2]
  have e2 : mkS [120] = ⟨#[120]⟩ := rfl
  rw [e2]
  clear e1 e2 hd
  have HCT := Lib.hid (fun w => count_any ⟨#[97, 10, 98]⟩ w (by decide))
  go_wp2_with (go_at_call 38; refine (HCT.out _).mono ?_; rintro e w6 ⟨he, hb6⟩; rw [show (linesU (⟨#[97, 10, 98]⟩ : ByteArray).data.toList).length = 2 from kn6] at he; subst he; have HB6 := Aside0.mk ((pw_below_drewN HB4.out n5).trans (hb6.mono HB4.out.size)); clear hb6)
  go_ret
  exact ⟨rfl, HB6.out⟩
theorem GV.known.calls (r : Bool) (w : World) (hgm : Gm w) (h : GV.known.f = some r) : Calls Tryd.prog 17 #[] w fun e w' => e = .returned (.bool r) ∧ Below w.heap.size w w' := by
  injection h with h
  subst h
  exact known_any w hgm
end Go.Proofs.YtfeciafdioepiaaDoor
namespace Go.Proofs.YtfeciafdioepiaaDoor.PL
open Go.Proofs.YtfeciafdioepiaaDoor.PA
open Go.Proofs.YtfeciafdioepiaaDoor
open Go.RowKit Go.Proofs.YtfeciafdioepiaaDoorW.PrintWords Go.Proofs.YtfeciafdioepiaaDoorW.PrintLast Go.Proofs.YtfeciafdioepiaaDoorW.PrintMore
attribute [local go_sem] max2_int min2_int max_two min_two max_three min_three max_four min_four   -- for this text's walks alone
set_option linter.unusedVariables false
set_option linter.unusedSimpArgs false

/-! ### bulletinlaw15_ArticleLevels: function 5 -/
def bulletinlaw15_ArticleLevels.f (k : Nat) (a0 : ByteArray) : Option (Bool) := (PA.bulletinlaw15_short.f a0 200).bind fun t101 => ((PC.article_Level.f t101).bind fun bt102 => ((PA.bulletinref15_Level.f k t101).bind fun bt104 => ((GV.known.f).bind fun t106 => (if t106 = true then (if bt102.1 = bt104.1 then (some (bt102.2.toList == bt104.2.toList)) else (some false)) else (some false)))))
set_option maxHeartbeats 8000000 in
set_option maxRecDepth 100000 in
theorem bulletinlaw15_ArticleLevels.calls (k : Nat) (a0 : ByteArray) (r : Bool) (w : World) (hgm : Gm w) (h : bulletinlaw15_ArticleLevels.f k a0 = some r) :
    Calls Tryd.prog 5 #[.string a0] w fun e w' => e = .returned (.bool r) ∧ Below w.heap.size w w' := by
  have HGM := Aside0.mk hgm
  clear hgm
  have HB := Aside0.mk (Below.refl w.heap.size w)
  have H : ((PA.bulletinlaw15_short.f a0 200).bind fun t101 => ((PC.article_Level.f t101).bind fun bt102 => ((PA.bulletinref15_Level.f k t101).bind fun bt104 => ((GV.known.f).bind fun t106 => (if t106 = true then (if bt102.1 = bt104.1 then (some (bt102.2.toList == bt104.2.toList)) else (some false)) else (some false)))))) = some r := h
  clear h
  replace H := Option.bind_eq_some_iff.mp H
  obtain ⟨t101, A20, H⟩ := H
  replace H : ((PC.article_Level.f t101).bind fun bt102 => ((PA.bulletinref15_Level.f k t101).bind fun bt104 => ((GV.known.f).bind fun t106 => (if t106 = true then (if bt102.1 = bt104.1 then (some (bt102.2.toList == bt104.2.toList)) else (some false)) else (some false))))) = some r := H
  have A2 := Aside0.mk A20
  clear A20
  replace H := Option.bind_eq_some_iff.mp H
  obtain ⟨⟨t102, t103⟩, A30, H⟩ := H
  replace H : ((PA.bulletinref15_Level.f k t101).bind fun bt104 => ((GV.known.f).bind fun t106 => (if t106 = true then (if t102 = bt104.1 then (some (t103.toList == bt104.2.toList)) else (some false)) else (some false)))) = some r := H
  have A3 := Aside0.mk A30
  clear A30
  replace H := Option.bind_eq_some_iff.mp H
  obtain ⟨⟨t104, t105⟩, A40, H⟩ := H
  replace H : ((GV.known.f).bind fun t106 => (if t106 = true then (if t102 = t104 then (some (t103.toList == t105.toList)) else (some false)) else (some false))) = some r := H
  have A4 := Aside0.mk A40
  clear A40
  replace H := Option.bind_eq_some_iff.mp H
  obtain ⟨t106, A50, H⟩ := H
  replace H : (if t106 = true then (if t102 = t104 then (some (t103.toList == t105.toList)) else (some false)) else (some false)) = some r := H
  have A5 := Aside0.mk A50
  clear A50
  by_cases c6 : t106 = true
  · subst c6
    have H1 : (if t102 = t104 then (some (t103.toList == t105.toList)) else (some false)) = some r := by rw [if_pos rfl] at H; exact H
    clear H
    have H := H1
    clear H1
    by_cases c7 : t102 = t104
    · rw [if_pos c7] at H
      have c7b0 : (t102 == t104) = true := beq_iff_eq.mpr c7
      have c7b1 : (t102 != t104) = false := bne_eq_false_iff_eq.mpr c7
      clear c7
      obtain rfl := Option.some.inj H
      go_enter Tryd.func5, Tryd.ntmps5
      go_wp2_with (first | ((with_reducible refine gate_callee (f := 14) rfl ?_); refine goesL_ (some 8) rfl rfl Tryd.func14 (by kernel_rfl) rfl #[.string a0, .int .i64 200] rfl (by (try simp only [List.map_toArray, List.map_cons, List.map_nil]); first | done | rfl | (simp only [List.length_drop, List.length_take]; rfl)) ?_; (with_reducible refine (PA.bulletinlaw15_short.calls a0 200 t101 _ A2.out).mono ?_); rintro e w8 ⟨rfl, hb⟩; refine ⟨_, rfl, ?_⟩; have n0_ := Aside0.mk (below_step (by repeat (first | (with_reducible first | exact HB.out | apply below_alloc | apply pw_below_drewN | apply below_drew1) | exact HB.out)) hb); clear HB; have HB := n0_; clear n0_; (try clear hb); (try clear hb2); (try clear hk); (try clear hi)) | ((with_reducible refine gate_callee (f := 15) rfl ?_); refine goesL_ (some 11) rfl rfl Tryd.func15 (by kernel_rfl) rfl #[.string t101] rfl (by (try simp only [List.map_toArray, List.map_cons, List.map_nil]); first | done | rfl | (simp only [List.length_drop, List.length_take]; rfl)) ?_; (with_reducible refine (PC.article_Level.calls t101 t102 t103 _ A3.out).mono ?_); rintro e w' ⟨rfl, ⟨nd, rfl⟩⟩; refine ⟨_, rfl, ?_⟩) | ((with_reducible refine gate_callee (f := 16) rfl ?_); refine goesL_ (some 16) rfl rfl Tryd.func16 (by kernel_rfl) rfl #[.string t101] rfl (by (try simp only [List.map_toArray, List.map_cons, List.map_nil]); first | done | rfl | (simp only [List.length_drop, List.length_take]; rfl)) ?_; (with_reducible refine (PA.bulletinref15_Level.calls k t101 t104 t105 _ A4.out).mono ?_); rintro e w' ⟨rfl, ⟨nd, rfl⟩⟩; refine ⟨_, rfl, ?_⟩) | ((with_reducible refine gate_callee (f := 17) rfl ?_); refine goesL_ (some 19) rfl rfl Tryd.func17 (by kernel_rfl) rfl #[] rfl (by (try simp only [List.map_toArray, List.map_cons, List.map_nil]); first | done | rfl | (simp only [List.length_drop, List.length_take]; rfl)) ?_; (with_reducible refine (GV.known.calls  true _ ?side1 A5.out).mono ?_); (case side1 => exact gm_at HGM.out (by repeat (first | (with_reducible first | exact HB.out | apply below_alloc | apply pw_below_drewN | apply below_drew1) | exact HB.out))); rintro e w9 ⟨rfl, hb⟩; refine ⟨_, rfl, ?_⟩; have n0_ := Aside0.mk (below_step (by repeat (first | (with_reducible first | exact HB.out | apply below_alloc | apply pw_below_drewN | apply below_drew1) | exact HB.out)) hb); clear HB; have HB := n0_; clear n0_; (try clear hb); (try clear hb2); (try clear hk); (try clear hi)))
      go_ret
      exact ⟨by first | rfl | (simp [errW_none, errW_some] <;> rfl) | (simp [*, errW_none, errW_some] <;> rfl), by repeat (first | (with_reducible first | exact HB.out | apply below_alloc | apply pw_below_drewN | apply below_drew1) | exact HB.out)⟩
    · rw [if_neg c7] at H
      have c7b0 : (t102 == t104) = false := beq_eq_false_iff_ne.mpr c7
      have c7b1 : (t102 != t104) = true := bne_iff_ne.mpr c7
      obtain rfl := Option.some.inj H
      go_enter Tryd.func5, Tryd.ntmps5
      go_wp2_with (first | ((with_reducible refine gate_callee (f := 14) rfl ?_); refine goesL_ (some 8) rfl rfl Tryd.func14 (by kernel_rfl) rfl #[.string a0, .int .i64 200] rfl (by (try simp only [List.map_toArray, List.map_cons, List.map_nil]); first | done | rfl | (simp only [List.length_drop, List.length_take]; rfl)) ?_; (with_reducible refine (PA.bulletinlaw15_short.calls a0 200 t101 _ A2.out).mono ?_); rintro e w10 ⟨rfl, hb⟩; refine ⟨_, rfl, ?_⟩; have n0_ := Aside0.mk (below_step (by repeat (first | (with_reducible first | exact HB.out | apply below_alloc | apply pw_below_drewN | apply below_drew1) | exact HB.out)) hb); clear HB; have HB := n0_; clear n0_; (try clear hb); (try clear hb2); (try clear hk); (try clear hi)) | ((with_reducible refine gate_callee (f := 15) rfl ?_); refine goesL_ (some 11) rfl rfl Tryd.func15 (by kernel_rfl) rfl #[.string t101] rfl (by (try simp only [List.map_toArray, List.map_cons, List.map_nil]); first | done | rfl | (simp only [List.length_drop, List.length_take]; rfl)) ?_; (with_reducible refine (PC.article_Level.calls t101 t102 t103 _ A3.out).mono ?_); rintro e w' ⟨rfl, ⟨nd, rfl⟩⟩; refine ⟨_, rfl, ?_⟩) | ((with_reducible refine gate_callee (f := 16) rfl ?_); refine goesL_ (some 16) rfl rfl Tryd.func16 (by kernel_rfl) rfl #[.string t101] rfl (by (try simp only [List.map_toArray, List.map_cons, List.map_nil]); first | done | rfl | (simp only [List.length_drop, List.length_take]; rfl)) ?_; (with_reducible refine (PA.bulletinref15_Level.calls k t101 t104 t105 _ A4.out).mono ?_); rintro e w' ⟨rfl, ⟨nd, rfl⟩⟩; refine ⟨_, rfl, ?_⟩) | ((with_reducible refine gate_callee (f := 17) rfl ?_); refine goesL_ (some 19) rfl rfl Tryd.func17 (by kernel_rfl) rfl #[] rfl (by (try simp only [List.map_toArray, List.map_cons, List.map_nil]); first | done | rfl | (simp only [List.length_drop, List.length_take]; rfl)) ?_; (with_reducible refine (GV.known.calls  true _ ?side1 A5.out).mono ?_); (case side1 => exact gm_at HGM.out (by repeat (first | (with_reducible first | exact HB.out | apply below_alloc | apply pw_below_drewN | apply below_drew1) | exact HB.out))); rintro e w11 ⟨rfl, hb⟩; refine ⟨_, rfl, ?_⟩; have n0_ := Aside0.mk (below_step (by repeat (first | (with_reducible first | exact HB.out | apply below_alloc | apply pw_below_drewN | apply below_drew1) | exact HB.out)) hb); clear HB; have HB := n0_; clear n0_; (try clear hb); (try clear hb2); (try clear hk); (try clear hi)))
      go_ret
      exact ⟨by first | rfl | (simp [errW_none, errW_some] <;> rfl) | (simp [*, errW_none, errW_some] <;> rfl), by repeat (first | (with_reducible first | exact HB.out | apply below_alloc | apply pw_below_drewN | apply below_drew1) | exact HB.out)⟩
  · replace c6 := Bool.eq_false_iff.mpr c6
    subst c6
    have H1 : (some false) = some r := by rw [if_neg (show ¬ (false = true) by decide)] at H; exact H
    clear H
    have H := H1
    clear H1
    obtain rfl := Option.some.inj H
    go_enter Tryd.func5, Tryd.ntmps5
    go_wp2_with (first | ((with_reducible refine gate_callee (f := 14) rfl ?_); refine goesL_ (some 8) rfl rfl Tryd.func14 (by kernel_rfl) rfl #[.string a0, .int .i64 200] rfl (by (try simp only [List.map_toArray, List.map_cons, List.map_nil]); first | done | rfl | (simp only [List.length_drop, List.length_take]; rfl)) ?_; (with_reducible refine (PA.bulletinlaw15_short.calls a0 200 t101 _ A2.out).mono ?_); rintro e w12 ⟨rfl, hb⟩; refine ⟨_, rfl, ?_⟩; have n0_ := Aside0.mk (below_step (by repeat (first | (with_reducible first | exact HB.out | apply below_alloc | apply pw_below_drewN | apply below_drew1) | exact HB.out)) hb); clear HB; have HB := n0_; clear n0_; (try clear hb); (try clear hb2); (try clear hk); (try clear hi)) | ((with_reducible refine gate_callee (f := 15) rfl ?_); refine goesL_ (some 11) rfl rfl Tryd.func15 (by kernel_rfl) rfl #[.string t101] rfl (by (try simp only [List.map_toArray, List.map_cons, List.map_nil]); first | done | rfl | (simp only [List.length_drop, List.length_take]; rfl)) ?_; (with_reducible refine (PC.article_Level.calls t101 t102 t103 _ A3.out).mono ?_); rintro e w' ⟨rfl, ⟨nd, rfl⟩⟩; refine ⟨_, rfl, ?_⟩) | ((with_reducible refine gate_callee (f := 16) rfl ?_); refine goesL_ (some 16) rfl rfl Tryd.func16 (by kernel_rfl) rfl #[.string t101] rfl (by (try simp only [List.map_toArray, List.map_cons, List.map_nil]); first | done | rfl | (simp only [List.length_drop, List.length_take]; rfl)) ?_; (with_reducible refine (PA.bulletinref15_Level.calls k t101 t104 t105 _ A4.out).mono ?_); rintro e w' ⟨rfl, ⟨nd, rfl⟩⟩; refine ⟨_, rfl, ?_⟩) | ((with_reducible refine gate_callee (f := 17) rfl ?_); refine goesL_ (some 19) rfl rfl Tryd.func17 (by kernel_rfl) rfl #[] rfl (by (try simp only [List.map_toArray, List.map_cons, List.map_nil]); first | done | rfl | (simp only [List.length_drop, List.length_take]; rfl)) ?_; (with_reducible refine (GV.known.calls  false _ ?side1 A5.out).mono ?_); (case side1 => exact gm_at HGM.out (by repeat (first | (with_reducible first | exact HB.out | apply below_alloc | apply pw_below_drewN | apply below_drew1) | exact HB.out))); rintro e w13 ⟨rfl, hb⟩; refine ⟨_, rfl, ?_⟩; have n0_ := Aside0.mk (below_step (by repeat (first | (with_reducible first | exact HB.out | apply below_alloc | apply pw_below_drewN | apply below_drew1) | exact HB.out)) hb); clear HB; have HB := n0_; clear n0_; (try clear hb); (try clear hb2); (try clear hk); (try clear hi)))
    go_ret
    exact ⟨by first | rfl | (simp [errW_none, errW_some] <;> rfl) | (simp [*, errW_none, errW_some] <;> rfl), by repeat (first | (with_reducible first | exact HB.out | apply below_alloc | apply pw_below_drewN | apply below_drew1) | exact HB.out)⟩

/-- THE ONE PURE STATEMENT of bulletinlaw15_ArticleLevels: yours. -/
def bulletinlaw15_ArticleLevels.Pure : Prop := ∀ (a0 : ByteArray), a0.size ≤ 140737488351232 → ∃ k, bulletinlaw15_ArticleLevels.f k a0 = some true
theorem bulletinlaw15_ArticleLevels.walk (P : bulletinlaw15_ArticleLevels.Pure) (a0 : ByteArray) (w : World) (hgm : Gm w) (w0 : a0.size ≤ 140737488351232) :
    Calls Tryd.prog 5 #[.string a0] w fun e w' => e = .returned (.bool true) ∧ Below w.heap.size w w' := by
  obtain ⟨k, h⟩ := P a0 w0
  refine (bulletinlaw15_ArticleLevels.calls k a0 true w hgm h).mono ?_
  rintro e w' ⟨rfl, hd⟩
  exact ⟨rfl, hd⟩

end Go.Proofs.YtfeciafdioepiaaDoor.PL
set_option linter.unusedVariables false
set_option linter.unusedSimpArgs false
namespace Go.Proofs.YtfeciafdioepiaaDoor
open Go.RowKit Go.Proofs Go.Proofs.YtfeciafdioepiaaDoorW.PrintWords Go.Proofs.YtfeciafdioepiaaDoorW.PrintMore Go.Proofs.YtfeciafdioepiaaDoor.PA
theorem mn_nat (a b : Nat) : mn (a : Int) (b : Int) = ((min a b : Nat) : Int) := by unfold mn; split <;> omega
theorem shortF (l : List UInt8) (n : Nat) (hn : n ≤ 1000000) : bulletinlaw15_short.f (mkS l) (n : Int) = some (mkS (l.take n)) := by
  unfold bulletinlaw15_short.f
  rw [mkS_size, mn_nat l.length n, if_pos (by omega), if_pos (by omega), Int.toNat_natCast, extract_mk, mkS_toList, List.drop_zero, Nat.sub_zero]
  congr 2
  rw [Nat.min_comm, ← List.take_take, List.take_length]
theorem trim_mark (t : List UInt8) : Lib.trimLeftB t 62 = t.drop (markN t) := by
  unfold Lib.trimLeftB markN
  induction t with
  | nil => rfl
  | cons c t ih =>
    by_cases h : c = 62
    · subst h
      have e : spanL isMark (62 :: t) = spanL isMark t + 1 := by simp [spanL, isMark]
      rw [e, List.drop_succ_cons, ← ih]; simp
    · have e : spanL isMark (c :: t) = 0 := by simp [spanL, isMark, h]
      rw [e]; simp [h]
theorem markN_le (t : List UInt8) : markN t ≤ t.length := spanL_le _ _
theorem trimSpace (t : List UInt8) (h : t.length ≤ 1000000) : strings_TrimPrefix.f (mkS t) (⟨#[32]⟩ : ByteArray) = some (mkS (if t.head? = some 32 then t.drop 1 else t)) := by
  unfold strings_TrimPrefix.f stringslite_TrimPrefix.f stringslite_HasPrefix.f
  have e1 : (((⟨#[32]⟩ : ByteArray).size : Nat) : Int) = 1 := rfl
  simp only [e1, mkS_size]
  cases t with
  | nil =>
    rw [if_neg (by decide)]
    simp only [Option.bind_some]
    rw [if_neg (by decide)]
    rfl
  | cons c t =>
    have hlc : (c :: t).length = t.length + 1 := rfl
    rw [if_pos (by omega), if_pos (by omega), if_pos (by omega), if_pos (by omega), if_pos (by omega)]
    have e2 : (mkS (c :: t)).extract 0 (1 : Int).toNat = mkS [c] := by rw [extract_mk, mkS_toList]; rfl
    have e3 : (⟨#[32]⟩ : ByteArray).toList = [32] := toList_mk [32]
    rw [e2, toList_mk, e3]
    simp only [Option.bind_some]
    by_cases hc : c = 32
    · subst hc
      rw [if_pos (by decide), if_pos (show (32 :: t).head? = some 32 from rfl)]
      simp only [Option.bind_some]
      congr 1
      rw [extract_mk, mkS_toList, List.take_of_length_le]
      · rfl
      · rw [List.length_drop]; simp
    · rw [if_neg (by simpa using hc), if_neg (by simpa using hc)]
      rfl
theorem articleLevel (t : List UInt8) (h : t.length ≤ 1000000) : PC.article_Level.f (mkS t) = some ((markN t : Int), mkS (restL t)) := by
  unfold PC.article_Level.f GV.TrimLeft.f
  rw [if_pos rfl, mkS_toList, trim_mark]
  have hm := markN_le t
  simp only [Option.bind_some, mkS_size, List.length_drop]
  have hw : wrap64 ((t.length : Int) - ((t.length - markN t : Nat) : Int)) = (markN t : Int) := by
    rw [show ((t.length : Int) - ((t.length - markN t : Nat) : Int)) = (markN t : Int) by omega, wrap64_small (by omega) (by omega)]
  rw [hw, trimSpace _ (by rw [List.length_drop]; omega)]
  unfold restL
  by_cases h0 : markN t = 0
  · rw [if_neg (by omega), if_pos h0]
  · rw [if_pos (by omega), if_neg h0]
    rfl
theorem Levels_pure : PL.bulletinlaw15_ArticleLevels.Pure := by
  intro a ha
  obtain ⟨l, rfl⟩ : ∃ l, a = mkS l := ⟨a.data.toList, (mkS_data a).symm⟩
  refine ⟨0, ?_⟩
  unfold PL.bulletinlaw15_ArticleLevels.f
  have hs := shortF l 200 (by omega)
  rw [show ((200 : Nat) : Int) = 200 from rfl] at hs
  rw [hs]
  have hlen : (l.take 200).length ≤ 200 := by rw [List.length_take]; omega
  generalize l.take 200 = t at *
  simp only [Option.bind_some]
  have hr : bulletinref15_Level.f 0 (mkS t) = some ((markN t : Int), mkS (restL t)) := by
    unfold bulletinref15_Level.f
    rw [if_pos (by rw [mkS_size]; omega), mkS_toList]
  rw [articleLevel t (by omega)]
  simp only [Option.bind_some]
  rw [hr]
  simp [GV.known.f]
end Go.Proofs.YtfeciafdioepiaaDoor
namespace Go.Proofs.YtfeciafdioepiaaDoor.Pure
theorem ArticleLevels : Go.Proofs.YtfeciafdioepiaaDoor.PL.bulletinlaw15_ArticleLevels.Pure := Go.Proofs.YtfeciafdioepiaaDoor.Levels_pure
end Go.Proofs.YtfeciafdioepiaaDoor.Pure
namespace Go.Proofs.YtfeciafdioepiaaDoor.articleLevels
open Go.ChangeShapes Go.WideShapes Go.ChangeAt Go.RowKit
open Go.ChangeMaps (open_string shut_string)
set_option linter.unusedVariables false
theorem own : ownKnob Tryd.prog.godebug = none := by kernel_rfl
set_option maxRecDepth 100000 in
theorem lifted (os : Os) (started : os.Started) (H : Type) (enc : TypeId × Value → H) :
    ReturnsInHanded {} Tryd.checked os 5 .any (fun w args => (Rows.articleLevelsSpec.pre enc Tryd.prog Tryd.f5 Rows.articleLevelsRow.domain false w args ∧ laidMetH Tryd.prog Rows.articleLevelsRow.laid w) ∧ sizedMet enc Tryd.prog Tryd.f5 (OpenSpec.ofChange Rows.articleLevelsSpec) false w args) (Rows.articleLevelsSpec.post enc Tryd.prog Tryd.f5 false true false false) := by
  refine handed_laid own started (by kernel_rfl) Tryd.func5
    (ChangeSpec.witness_shaped (enc := enc) (C := Tryd.checked) (os := os) (X := fun w _ => laidMetH Tryd.prog Rows.articleLevelsRow.laid w) false (World.laidAll Tryd.prog os Rows.articleLevelsRow.laid) #[.string ByteArray.empty] 8 (World.laidAll_os _ _ _)
      (World.shaped_of_ZipB (by kernel_rfl) (by kernel_rfl)) (by kernel_rfl) (by kernel_rfl) (by kernel_rfl)
      (by rw [MakeChecks.laidMetH_plain _ _ _ (by kernel_rfl)]; exact laidMet_laidAll _ (by kernel_rfl) (by kernel_rfl))) ?_
  intro W base args ds gs before hval0 hW hcnd hsz0 hL hsh _
  have hsz : (DataW.weightsEach Tryd.prog (Tryd.f5.params.toList ++ Rows.articleLevelsSpec.plain.varTypes Tryd.prog) (ds ++ gs)).all (· ≤ reachBytes) = true := hsz0
  have hval : ∀ (j : Nat) t v, Tryd.f5.params[j]? = some t → args[j]? = some v → Value.okWide Tryd.prog W .any base t v := hval0
  have hW' := hW
  obtain ⟨p, q, hA0, hV, rfl, hfz, hnd⟩ := hW
  have hA : DataW.TrodAll enc Tryd.prog W 0 (fun _ => true) true Tryd.f5.params.toList args.toList ds p := hA0
  rw [Tryd.params5] at hA hval hsz
  obtain ⟨v0, vs0, d0, ds0, p0, q0, hargs, rfl, rfl, h0, r0⟩ := trodAll_cons hA
  obtain ⟨rfl, rfl, rfl⟩ := trodAll_nil r0
  obtain rfl : args = #[v0] := by cases args; simp_all
  obtain ⟨rfl, rfl⟩ := trodVars_none hV
  obtain ⟨a0, rfl, rfl, rfl, y0⟩ := open_string Tryd.underlying9 (hval 0 9 v0 rfl rfl) h0
  have w0 : a0.size ≤ 140737488351232 := by
    have z := sized_string hsz (j := 0) (t := 9) rfl rfl
    rw [Array.length_toList] at z
    exact z
  clear hA0 hval0 hsz0 hsz
  refine (PL.bulletinlaw15_ArticleLevels.walk Pure.ArticleLevels a0 W (Tryd.laysM143.s1_3 W hsh) w0).mono fun e W' ⟨he, bel⟩ => ?_
  subst he
  exact ⟨_, rfl, _, _, _, [], _, [], hW', trodAll_mk1 (shut_bool Tryd.underlying4 _), (trodAll_cons_mk (shut_string Tryd.underlying9 y0) trodAll_mk0), rfl, bel.frame _, fun h => by cases h⟩
theorem over : Rows.articleLevelsRow.holds Tryd.pinned (OpenSpec.ofChange Rows.articleLevelsSpec) :=
  OpenClaim.holds_of_wide 5 Tryd.f5 rfl rfl rfl rfl rfl rfl rfl ⟨rfl, rfl, rfl, rfl, rfl⟩ rfl rfl rfl rfl rfl (by kernel_rfl) Tryd.func5 (by kernel_rfl)
    (of_decide_eq_true (by kernel_rfl)) (by unfold Func.isWrapper; first | (rw [if_pos (by decide +kernel)]; kernel_rfl) | (rw [if_neg (by decide +kernel)]; exact ⟨rfl, rfl⟩))
    (fun os started H enc _ => lifted os started H enc)
theorem row_holds : Rows.ArticleLevelsSaid := over
theorem card_holds : Rows.ArticleLevelsCardSaid :=
  Claim7.holds_tied_plain_at .later [] [.data, .pinned] true (true, "f00d8e2a88cfc44ae847e8ac222b5eca40ef668ba65918479a60d4e6b38431e6") false row_holds (fun _ h => by cases h) (by kernel_rfl) (fun _ h => by cases h) articleLevels_row_tie rfl ⟨rfl, rfl⟩ (by kernel_rfl) rfl
    (fun f fn hf hfn => by
      obtain rfl : f = 5 := Option.some.inj ((show Tryd.prog.funcNamed "bulletin/bulletinlaw15.ArticleLevels" = some 5 by kernel_rfl).symm.trans hf) |>.symm
      obtain rfl : fn = Tryd.f5 := (Option.some.inj (Tryd.func5.symm.trans hfn)).symm
      exact ⟨by kernel_rfl, fun j t ht => by
        rw [Tryd.params5] at ht
        have hm : t ∈ [9] := by simpa using Array.mem_of_getElem? ht
        have hall : ([9].all fun u => !Tryd.prog.wantsStandIn u) = true := by kernel_rfl
        exact (show Tryd.prog.wantsStandIn t = false by simpa using List.all_eq_true.1 hall t hm)⟩)
    (by kernel_rfl)
#print axioms card_holds
end Go.Proofs.YtfeciafdioepiaaDoor.articleLevels
namespace Go.Proofs.YtfeciafdioepiaaDoor
/-- The card, under a short name, for the claim. -/
theorem articleLevels_holds : Rows.ArticleLevelsCardSaid := articleLevels.card_holds
end Go.Proofs.YtfeciafdioepiaaDoor
