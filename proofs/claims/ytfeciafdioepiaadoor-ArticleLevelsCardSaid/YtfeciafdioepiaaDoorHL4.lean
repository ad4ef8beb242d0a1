/- Merged texts: H11, H12, H13, H14, H15; Contracts proved by hand over this translation, in the printed form: Cut, badByt; The contracts of the two Level over this translation.; The steps of article's parser.; The steps of article's parser: the header.; Article's Parse. -/
import Derived.Test.YtfeciafdioepiaaDoorHL3
import Derived.Lib.CountLaws
import Derived.Test.YtfeciafdioepiaaDoorProg
import Derived.Below
import Derived.Deep.Draws
import Derived.Deep.AppendLies
import Derived.Maps.AppendAt
import Derived.OwnWalk
import Derived.Laws.BytesArg
import Derived.Laws.MakeOwn
import Derived.Laws.OwnMore
import Derived.Deep.OwnRows
import Derived.Tactics
import Derived.Lib.ConvBytes
import Derived.Laws.Slices
import Derived.WalkKit
import Derived.KernelRfl
import Derived.RowKit3
import Derived.Deep.LoopGhost
import Derived.Deep.QuietTactic
import Derived.BigQuiet
import Derived.WideLaws
import Derived.Deep.DeepCutAuto
import Derived.Deep.CutBlock
import Derived.Deep.RegionHeld3
import Derived.Laws.Rows
import Derived.Lib.AppendStr
import Derived.ArgAppend
import Derived.Laws.IdiomCopy
import Derived.OrdersHeld
import Derived.Laws.BitsLemmas
import Derived.RowKit
import Derived.Test.YtfeciafdioepiaaDoorWWords
import Derived.Test.YtfeciafdioepiaaDoorWLast
import Derived.Test.YtfeciafdioepiaaDoorWTab
import Derived.Test.YtfeciafdioepiaaDoorWFour
import Derived.Test.YtfeciafdioepiaaDoorWQPut
import Derived.Test.YtfeciafdioepiaaDoorWApart
import Derived.Test.YtfeciafdioepiaaDoorWArr
import Derived.Test.YtfeciafdioepiaaDoorWZeros
import Derived.Test.YtfeciafdioepiaaDoorWFoot
import Derived.Test.YtfeciafdioepiaaDoorWKept
import Derived.Test.YtfeciafdioepiaaDoorWShare
import Derived.Test.YtfeciafdioepiaaDoorWN
import Derived.Test.YtfeciafdioepiaaDoorWFootNe
import Derived.Test.YtfeciafdioepiaaDoorWAt
import Derived.Test.YtfeciafdioepiaaDoorWEqStruct
import Derived.Test.YtfeciafdioepiaaDoorWRepsOne
import Derived.Test.YtfeciafdioepiaaDoorWInv
import Derived.Test.YtfeciafdioepiaaDoorWInvWords
import Derived.Test.YtfeciafdioepiaaDoorWGuard
import Derived.Test.YtfeciafdioepiaaDoorWNEv
import Derived.Test.YtfeciafdioepiaaDoorWMore
import Derived.Deep.RegionWith
set_option linter.unusedVariables false
set_option linter.unusedSimpArgs false
/- WriteString beside other rows; the contract of Field.Fold. -/
namespace Go.Proofs.YtfeciafdioepiaaDoor
open Go.RowKit Go.Proofs Go.Proofs.YtfeciafdioepiaaDoorW.PrintWords Go.Proofs.YtfeciafdioepiaaDoor.PA

/-- The rows that are of no builder stay. -/
def Sib (w w' : World) : Prop := ∀ (k : Nat) (cs : Array Value) (T : TypeId), w.heap[k]? = some (Obj.cells cs T (0, 0)) → T ≠ 57 → T ≠ 5 → w'.heap[k]? = w.heap[k]?
theorem Sib.refl (w : World) : Sib w w := fun _ _ _ _ _ _ => rfl
theorem Sib.trans {w w1 w2 : World} (h : Sib w w1) (k : Sib w1 w2) : Sib w w2 := fun i cs T hi h1 h2 => (k i cs T ((h i cs T hi h1 h2).trans hi) h1 h2).trans (h i cs T hi h1 h2)
theorem Sib.below {w w1 : World} (h : Below w.heap.size w w1) : Sib w w1 := fun i cs T hi _ _ => h.block i (by
  rcases Nat.lt_or_ge i w.heap.size with h' | h'
  · exact h'
  · simp [Array.getElem?_eq_none h'] at hi)
theorem Sib.set_ {w : World} {b : Nat} {cs : Array Value} (hb : w.heap[b]? = some (.cells cs 57 (0, 0))) (j : Nat) (v : Value) : Sib w (w.setCell ⟨b, j, none⟩ v) := fun k cs' T hk h1 _ => by
  refine Below.heap_setCell _ _ _ _ ?_
  rintro rfl
  rw [hk] at hb
  injection hb with hb
  injection hb with _ hb
  exact h1 hb
theorem R_sib {α : Type} {d : Kd α} {e : Nat} {w w1 : World} {base : Nat} {ok : Nat → Prop} {v : Value} {xs : List α} (h : d.R e w base ok v xs) (hs : Sib w w1) (ht : ∀ q, q ∈ e :: d.E → q ≠ 57 ∧ q ≠ 5) : d.R e w1 base ok v xs :=
  Kd.R_mono (Kd.R_step (Kd.R_bound h) (fun k hk _ => by
    obtain ⟨_, _, _, q, hq, cells, hc⟩ := hk
    exact hs k cells q hc (ht q hq).1 (ht q hq).2)) (fun _ hk => hk.1)

theorem copyCheck2 (B b : Nat) (bs : List Value) (w : World) (h : Lib.IsBuilder 57 5 B b bs w) :
    Calls Tryd.prog 57 #[.pointer (some ⟨b, 0, none⟩)] w fun e w' => e = .returned (.tuple #[]) ∧ (Lib.BuilderAt 57 5 B b (.pointer (some ⟨b, 0, none⟩)) bs w' ∧ Below B w w' ∧ Sib w w') := by
  rcases h with h | h
  · refine (copyCheck_fresh b w h.cell0 h.shape h.frozen0).mono ?_
    rintro e w' ⟨rfl, rfl⟩
    obtain ⟨hB, v, hb, _⟩ := id h
    exact ⟨rfl, h.used _, (Below.refl B w).setCell (p := ⟨b, 0, none⟩) h.1 _, Sib.set_ hb 0 _⟩
  · refine (copyCheck_used b w h.cell0).mono ?_
    rintro e w' ⟨rfl, rfl⟩
    exact ⟨rfl, h, Below.refl B _, Sib.refl _⟩

set_option maxHeartbeats 2000000 in
set_option maxRecDepth 100000 in
theorem writeString2 (B b : Nat) (bs : List Value) (s : ByteArray) (w : World) (h : Lib.IsBuilder 57 5 B b bs w) (hlen : bs.length + s.size ≤ 140737488355328) (hBw : B ≤ w.heap.size) :
    Calls Tryd.prog 29 #[.pointer (some ⟨b, 0, none⟩), .string s] w fun e w' => e = .returned (.tuple #[.int .i64 s.size, .nilIface]) ∧ (Lib.BuilderAt 57 5 B b (.pointer (some ⟨b, 0, none⟩)) (bs ++ Lib.strCells s) w' ∧ Below B w w' ∧ Sib w w') := by
  obtain ⟨i0, hi, hz0, hz1, hz2⟩ := info_parts infoByte
  go_enter Tryd.func29, Tryd.ntmps29
  go_wp2_with (go_at_call 57; refine (copyCheck2 B b bs _ h).mono ?_)
  rintro e w1 ⟨rfl, h1, hb1, hs1⟩
  obtain ⟨hB, v, hbk, hown, hne⟩ := h1
  have c0 : w1.cell? ⟨b, 0, none⟩ = some (.pointer (some ⟨b, 0, none⟩)) := by rw [Lib.cell_of_heap hbk]; rfl
  have c1 : w1.cell? ⟨b, 1, none⟩ = some v := by rw [Lib.cell_of_heap hbk]; rfl
  go_wp2_with (at_builtin; refine Lib.wpList_append_own_string _ rfl _ _ 55 9 rfl B 5 i0 Tryd.underlying55 Tryd.underlying9 hi hz0 hz1 hz2 _ _ _ rfl hown s rfl ?c3 ?c4 ?c5 ?_)
  case c3 => unfold maxLen; omega
  case c4 => omega
  case c5 => have := hb1.size; omega
  intro v' w2 hown' hgrow _
  have hlt : b < w1.heap.size := by
    rcases Nat.lt_or_ge b w1.heap.size with h' | h'
    · exact h'
    · simp [Array.getElem?_eq_none h'] at hbk
  have hb2 : w2.heap[b]? = some (.cells #[.pointer (some ⟨b, 0, none⟩), v] 57 (0, 0)) := by
    rw [hgrow.block b hlt (fun e => hne e.symm)]
    exact hbk
  have d0 : w2.cell? ⟨b, 0, none⟩ = some (.pointer (some ⟨b, 0, none⟩)) := by rw [Lib.cell_of_heap hb2]; rfl
  have d1 : w2.cell? ⟨b, 1, none⟩ = some v := by rw [Lib.cell_of_heap hb2]; rfl
  have f1 : w2.frozen? ⟨b, 1, none⟩ = false := Lib.frozen_of_heap hb2 1
  have hs2 : Sib w1 w2 := fun k cs T hk h1 h2 => by
    refine hgrow.block k ?_ ?_
    · rcases Nat.lt_or_ge k w1.heap.size with h' | h'
      · exact h'
      · simp [Array.getElem?_eq_none h'] at hk
    · exact fun e => Lib.ownBlock_ne hown hk h2 e.symm
  obtain ⟨ao, n', cap, rfl⟩ : ∃ ao n' cap, v' = .slice ao n' cap := by
    rcases hown'.2 with ⟨hv, _⟩ | ⟨g, cap, cur, hv, _⟩
    · exact ⟨_, _, _, hv⟩
    · exact ⟨_, _, _, hv⟩
  go_wp2
  go_ret2
  refine ⟨rfl, ?_, ?_, (hs1.trans hs2).trans (Sib.set_ hb2 1 _)⟩
  · exact Lib.BuilderAt.put (T := 57) (e := 5) hB hb2 (bs' := bs ++ Lib.strCells s) (by simpa [Lib.strCells_length] using hown') (by decide)
  · exact (hb1.grown hgrow (by have := hb1.size; omega) (fun k hk => (hown.lt k hk).1)).setCell (p := ⟨b, 1, none⟩) hB _

theorem fresh_builder {w : World} {B b : Nat} (hB : B ≤ b) (hb : w.heap[b]? = some (.cells #[.pointer none, .slice none 0 0] 57 (0, 0))) : Lib.IsBuilder 57 5 B b (Lib.byteCells []) w :=
  .inl ⟨hB, .slice none 0 0, hb, World.ownsRow_nil _ _ _ _, by simp [Value.ownBlock]⟩

theorem mkS_append (a b : List UInt8) : mkS a ++ mkS b = mkS (a ++ b) := by
  have : ∀ x y : ByteArray, x.data.toList = y.data.toList → x = y := fun x y h => by
    cases x; cases y; simp at h; subst h; rfl
  apply this
  simp [mkS, ByteArray.data_append]
theorem IsBuilder_below {w w1 : World} {B b : Nat} {bs : List Value} (h : Lib.IsBuilder 57 5 B b bs w) (hb : Below w.heap.size w w1) : Lib.IsBuilder 57 5 B b bs w1 := by
  have key : ∀ p, Lib.BuilderAt 57 5 B b p bs w → Lib.BuilderAt 57 5 B b p bs w1 := by
    intro p h
    have hlt := h.lt
    obtain ⟨hB, v, hv, hown, hne⟩ := h
    refine ⟨hB, v, (hb.block b hlt).trans hv, ?_, hne⟩
    refine ⟨hown.1, ?_⟩
    rcases hown.2 with hn | ⟨g, cap, cur, rfl, hbg, hgg, rest⟩
    · exact .inl hn
    · exact .inr ⟨g, cap, cur, rfl, hbg, (hb.block g (Array.getElem?_eq_some_iff.1 hgg).1).trans hgg, rest⟩
  exact h.elim (fun x => .inl (key _ x)) (fun x => .inr (key _ x))

/-- The lines of a folded field. -/
def foldW : List (List UInt8) → List UInt8 → List UInt8 → Bool → List UInt8
  | [], out, line, _ => out ++ (line ++ [10])
  | x :: xs, out, line, e => if e = false ∧ 78 < line.length + 1 + x.length then foldW xs (out ++ (line ++ [10])) (32 :: x) false else foldW xs out (line ++ 32 :: x) false
def foldL (name body : List UInt8) : List UInt8 := foldW (wordsL body) [] (name ++ [58]) true
def costW (ws : List (List UInt8)) : Nat := sumL ws + 2 * ws.length
theorem costW_cons (x : List UInt8) (xs : List (List UInt8)) : costW (x :: xs) = x.length + 2 + costW xs := by
  simp [costW, sumL]; omega
theorem mkS_one (c : UInt8) : (⟨#[c]⟩ : ByteArray) = mkS [c] := rfl
theorem mkS_nil : (⟨#[]⟩ : ByteArray) = mkS [] := rfl
end Go.Proofs.YtfeciafdioepiaaDoor

/- The contract of Field.Fold. -/
namespace Go.Proofs.YtfeciafdioepiaaDoor
open Go.RowKit Go.Proofs Go.Proofs.YtfeciafdioepiaaDoorW.PrintWords Go.Proofs.YtfeciafdioepiaaDoor.PA

def GV.Fold.f (k : Nat) (a b : ByteArray) : Option (ByteArray × Int) := (PB.field_Field_Check.f k a b).bind fun e => if e = 0 then (if a.size ≤ 1000000 ∧ b.size ≤ 1000000 then some (mkS (foldL a.data.toList b.data.toList), 0) else none) else some (⟨#[]⟩, e)
theorem str_mk (s : ByteArray) : Lib.strCells s = Lib.byteCells s.data.toList := rfl

set_option maxHeartbeats 2000000 in
set_option maxRecDepth 100000 in
theorem GV.Fold.calls (k : Nat) (a0_0 a0_1 : ByteArray) (r1 : ByteArray) (r2 : Int) (w : World) (h : GV.Fold.f k a0_0 a0_1 = some (r1, r2)) :
    Calls Tryd.prog 91 #[.agg #[.string a0_0, .string a0_1]] w fun e w' => e = .returned (.tuple #[.string r1, .int .i64 r2]) ∧ Below w.heap.size w w' := by
  have hBX : (w.alloc (.cells #[.string a0_0, .string a0_1] 74)).heap[w.heap.size]? = some (.cells #[.string a0_0, .string a0_1] 74 (0, 0)) := by simpa using heap_alloc_new w (.cells #[.string a0_0, .string a0_1] 74)
  have HBX := Aside0.mk hBX
  have HW0 := Aside0.mk ((Below.refl w.heap.size w).alloc (Nat.le_refl _) (.cells #[.string a0_0, .string a0_1] 74))
  clear hBX
  obtain ⟨e0, he0, h1⟩ := Option.bind_eq_some_iff.mp h
  have He0 := Lib.hid he0
  clear h he0
  by_cases hz : e0 = 0
  · rw [if_pos hz] at h1
    subst hz
    split at h1
    · rename_i hsz
      obtain ⟨hsa, hsb⟩ := hsz
      injection h1 with h1
      injection h1 with h1 h2
      have HR := Lib.hid h1
      subst h2
      clear h1
      go_enter Tryd.func91, Tryd.ntmps91
      go_wp2_with fail
      refine (PB.field_Field_Check.calls k _ _ _ _ He0.out).mono ?_
      rintro e w1 ⟨rfl, hb1⟩
      have hB1 := HW0.out.trans (hb1.mono (by simp))
      have HBX1 := Aside0.mk ((hb1.block w.heap.size (by simp)).trans HBX.out)
      have hc0 := (blk_cell HBX1.out 0).trans rfl
      have hc1 := (blk_cell HBX1.out 1).trans rfl
      have hlt1 : w.heap.size ≤ w1.heap.size := hB1.size
      have hblt : w.heap.size < w1.heap.size := by have := hb1.size; simp at this; omega
      have HB1 := Aside0.mk hB1
      have hn1 : w.heap.size ≠ w1.heap.size := by omega
      clear hb1 hB1
      have HFB := Aside0.mk (fresh_builder (w := w1.alloc (.cells #[.pointer none, .slice none 0 0] 57)) (B := w.heap.size) (b := w1.heap.size) hlt1 (by simpa using heap_alloc_new w1 (.cells #[.pointer none, .slice none 0 0] 57)))
      go_wp2_with fail
      refine (ascii_Words.calls a0_1 _ (by omega)).mono ?_
      rintro e w2 ⟨v2, rfl, hR2, hb2⟩
      obtain ⟨A2, c2, rfl⟩ := Kd.R_slice hR2
      have hwl := wordsL_len a0_1.data.toList
      have hws := wordsL_sum a0_1.data.toList
      have hsa' : a0_0.data.toList.length = a0_0.size := by simp
      have hsb' : a0_1.data.toList.length = a0_1.size := by simp
      have hR2' : Kd.R Kd.string 9 w2 _ (fun _ => True) (.slice A2 (wordsB a0_1).length c2) ((wordsL a0_1.data.toList).map mkS) := hR2
      have HR2 := Aside0.mk hR2'
      have hcn : (wordsB a0_1).length = (wordsL a0_1.data.toList).length := by unfold wordsB; rw [List.length_map]
      rw [hcn] at HR2 ⊢
      have HFB2 := Aside0.mk (IsBuilder_below HFB.out hb2)
      have HB2 := Aside0.mk ((HB1.out.alloc hlt1 (.cells #[.pointer none, .slice none 0 0] 57)).trans (hb2.mono (by simp; omega)))
      have hbs2 : w1.heap.size < w2.heap.size := by have := hb2.size; simp at this; omega
      have hres : mkS (foldW (wordsL a0_1.data.toList) [] (a0_0.data.toList ++ [58]) true) = r1 := HR.out
      have hline : a0_0 ++ ⟨#[58]⟩ = mkS (a0_0.data.toList ++ [58]) := by rw [← mkS_append, mkS_data]; rfl
      have hcost : costW (wordsL a0_1.data.toList) ≤ 3000000 := by unfold costW; omega
      have hnl : (a0_0.data.toList ++ [58]).length ≤ 1000001 := by simp; omega
      rw [hline]
      generalize hws : wordsL a0_1.data.toList = ws at *
      generalize hnm : a0_0.data.toList ++ [58] = nm at *
      have Hres := Lib.hid hres
      have Hcost := Lib.hid hcost
      have Hnl := Lib.hid hnl
      have hwl3 : ws.length ≤ 1000001 := by omega
      clear hR2 hb2 hR2' hwl hws hsa' hsb' hcn hres hline hcost hnm HR hnl
      generalize hBb : w1.heap.size = b at *
      clear HFB HBX1 hc0 hc1 HB1 hBb
      go_wp2
      go_loopw [6, 7, 22] (fun v6 v7 v22 wr => ∃ (j : Nat) (out line : List UInt8) (e : Bool), j ≤ ws.length ∧ v22 = .int .i64 j ∧ v6 = .string (mkS line) ∧ v7 = .bool e ∧ Aside0 (mkS (foldW (ws.drop j) out line e) = r1) ∧ Aside0 (out.length + line.length + costW (ws.drop j) ≤ 5000000) ∧ Aside0 (Lib.IsBuilder 57 5 w.heap.size b (Lib.byteCells out) wr) ∧
        Aside0 (Below w.heap.size w wr) ∧ Aside0 (Kd.R Kd.string 9 wr (w1.alloc (.cells #[.pointer none, .slice none 0 0] 57)).heap.size (fun _ => True) (.slice A2 ws.length c2) (ws.map mkS))) (fun v6 v7 v22 _ => ws.length - (intOf v22).toNat)
      case atStart => exact ⟨0, [], nm, true, Nat.zero_le _, rfl, rfl, rfl, ⟨Hres.out⟩, ⟨by have := Hcost.out; have := Hnl.out; simp; omega⟩, HFB2, HB2, HR2⟩
      case round =>
        obtain ⟨j, out, line, e, hj, rfl, rfl, rfl, HE, HC, HBl, HW, HR⟩ := hrel
        by_cases hlt : j < ws.length
        · have hdk : ws.drop j = ws[j] :: ws.drop (j + 1) := List.drop_eq_getElem_cons hlt
          obtain ⟨ad, hA, hx0⟩ := Kd.at_string (Kd.R_reads' HR.out).2.2 j (by omega) (by simp; omega)
          have hget : rdOf ByteArray.empty (ws.map mkS) (j : Int) = mkS ws[j] := by
            unfold rdOf; rw [Int.toNat_natCast, List.getD_eq_getElem?_getD, List.getElem?_map, List.getElem?_eq_getElem hlt]; rfl
          rw [hget] at hx0
          rw [Int.toNat_natCast] at hx0
          have hE2 := HE.out
          have hC2 := HC.out
          rw [hdk] at hE2 hC2
          rw [costW_cons] at hC2
          generalize hxq : ws[j] = x at *
          have hxs := mkS_size x
          have hls := mkS_size line
          have hl1 : (mkS line ++ (⟨#[10]⟩ : ByteArray)) = mkS (line ++ [10]) := by rw [mkS_one, mkS_append]
          have hl2 : (mkS line ++ (⟨#[32]⟩ : ByteArray)) = mkS (line ++ [32]) := by rw [mkS_one, mkS_append]
          have hl3 : ((⟨#[]⟩ : ByteArray) ++ (⟨#[32]⟩ : ByteArray)) = mkS [32] := by rw [mkS_one, mkS_nil, mkS_append]; rfl
          have Hl1 := Lib.hid hl1
          have Hl2 := Lib.hid hl2
          have Hl3 := Lib.hid hl3
          have Hxs := Lib.hid hxs
          have Hls := Lib.hid hls
          have hE3 : mkS (if e = false ∧ 78 < line.length + 1 + x.length then foldW (ws.drop (j + 1)) (out ++ (line ++ [10])) (32 :: x) false else foldW (ws.drop (j + 1)) out (line ++ 32 :: x) false) = r1 := hE2
          have HE3 := Lib.hid hE3
          subst hA
          clear hdk hget hE2 hE3 hxq hl1 hl2 hl3 HE HC
          have hxs1 : (mkS x).size ≤ 5000000 := by omega
          have hls1 : (mkS line).size ≤ 5000000 := by omega
          rcases Bool.eq_false_or_eq_true e with rfl | rfl
          · have hE4 := HE3.out
            rw [if_neg (by simp)] at hE4
            have HE4 := Aside0.mk hE4
            have hadd : (mkS (line ++ [32]) ++ mkS x) = mkS (line ++ 32 :: x) := by rw [mkS_append]; simp
            have Hadd := Lib.hid hadd
            have hsz4 : (mkS line ++ (⟨#[32]⟩ : ByteArray)).size ≤ 5000001 := by rw [Hl2.out, mkS_size]; simp; omega
            clear hE4 HE3 hadd
            go_wp2
            go_roundw
            case rel => exact ⟨j + 1, out, line ++ 32 :: x, false, by omega, by go_num, by rw [Hl2.out, Hadd.out], rfl, ⟨HE4.out⟩, ⟨by simp; omega⟩, HBl, HW, HR⟩
            case measure => simp [intOf]; omega
          · by_cases hlong : 78 < line.length + 1 + x.length
            · have hE4 := HE3.out
              rw [if_pos ⟨rfl, hlong⟩] at hE4
              have HE4 := Aside0.mk hE4
              have hadd : (mkS [32] ++ mkS x) = mkS (32 :: x) := by rw [mkS_append]; simp
              have Hadd := Lib.hid hadd
              have hcells : Lib.byteCells out ++ Lib.strCells (mkS (line ++ [10])) = Lib.byteCells (out ++ (line ++ [10])) := by rw [str_mk, mkS_toList, ← Lib.byteCells_append]
              have Hcells := Lib.hid hcells
              have hsz4 : ((⟨#[]⟩ : ByteArray) ++ (⟨#[32]⟩ : ByteArray)).size ≤ 1 := by rw [Hl3.out, mkS_size]; simp
              clear hE4 HE3 hadd hcells
              go_wp2_with fail
              rw [Hl1.out]
              refine (writeString2 w.heap.size b _ (mkS (line ++ [10])) _ HBl.out (by rw [Lib.byteCells_length, mkS_size]; simp; omega) HW.out.size).mono ?_
              rintro e w3 ⟨rfl, hb3, hw3, hs3⟩
              rw [Hcells.out] at hb3
              have HBl3 := Aside0.mk (Or.inr hb3 : Lib.IsBuilder 57 5 w.heap.size b (Lib.byteCells (out ++ (line ++ [10]))) w3)
              have HW3 := Aside0.mk (HW.out.trans hw3)
              have HR3 := Aside0.mk (R_sib HR.out hs3 (by decide))
              clear hb3 hw3 hs3
              go_wp2
              go_roundw
              case rel => exact ⟨j + 1, out ++ (line ++ [10]), 32 :: x, false, by omega, by go_num, by rw [Hl3.out, Hadd.out], rfl, ⟨HE4.out⟩, ⟨by simp; omega⟩, HBl3, HW3, HR3⟩
              case measure => simp [intOf]; omega
            · have hE4 := HE3.out
              rw [if_neg (fun h => hlong h.2)] at hE4
              have HE4 := Aside0.mk hE4
              have hadd : (mkS (line ++ [32]) ++ mkS x) = mkS (line ++ 32 :: x) := by rw [mkS_append]; simp
              have Hadd := Lib.hid hadd
              have hsz4 : (mkS line ++ (⟨#[32]⟩ : ByteArray)).size ≤ 5000001 := by rw [Hl2.out, mkS_size]; simp; omega
              clear hE4 HE3 hadd
              go_wp2
              go_roundw
              case rel => exact ⟨j + 1, out, line ++ 32 :: x, false, by omega, by go_num, by rw [Hl2.out, Hadd.out], rfl, ⟨HE4.out⟩, ⟨by simp; omega⟩, HBl, HW, HR⟩
              case measure => simp [intOf]; omega
        · have hk2 : ws.drop j = [] := List.drop_eq_nil_of_le (by omega)
          have hE := HE.out
          have hC2 := HC.out
          rw [hk2] at hE hC2
          have hE2 : mkS (out ++ (line ++ [10])) = r1 := hE
          have HE2 := Aside0.mk hE2
          have hl1 : (mkS line ++ (⟨#[10]⟩ : ByteArray)) = mkS (line ++ [10]) := by rw [mkS_one, mkS_append]
          have Hl1 := Lib.hid hl1
          have hcells : Lib.byteCells out ++ Lib.strCells (mkS (line ++ [10])) = Lib.byteCells (out ++ (line ++ [10])) := by rw [str_mk, mkS_toList, ← Lib.byteCells_append]
          have Hcells := Lib.hid hcells
          have hls := mkS_size line
          have hls1 : (mkS line).size ≤ 5000000 := by omega
          clear hk2 hE hE2 hl1 hcells HE
          go_wp2_with fail
          rw [Hl1.out]
          refine (writeString2 w.heap.size b _ (mkS (line ++ [10])) _ HBl.out (by rw [Lib.byteCells_length, mkS_size]; simp; omega) HW.out.size).mono ?_
          rintro e w3 ⟨rfl, hb3, hw3, hs3⟩
          rw [Hcells.out] at hb3
          have HBl3 := Aside0.mk (Or.inr hb3 : Lib.IsBuilder 57 5 w.heap.size b (Lib.byteCells (out ++ (line ++ [10]))) w3)
          have HW3 := Aside0.mk (HW.out.trans hw3)
          clear hb3 hw3 hs3
          go_wp2_with fail
          refine (Tryd.Builder_String_any w.heap.size b _ _ HBl3.out HW3.out.size).mono ?_
          rintro e w4 ⟨rfl, hw4⟩
          have HW4 := Aside0.mk (HW3.out.trans hw4)
          clear hw4
          go_wp2
          go_ret2
          exact ⟨by rw [← HE2.out]; rfl, HW4.out⟩
    · cases h1
  · rw [if_neg hz] at h1
    injection h1 with h1
    injection h1 with h1 h2
    subst h1 h2
    have hzb : (e0 == 0) = false := beq_eq_false_iff_ne.2 hz
    have hzb2 : (e0 != 0) = true := bne_iff_ne.2 hz
    have Hz := Lib.hid hz
    clear hz
    go_enter Tryd.func91, Tryd.ntmps91
    go_wp2_with fail
    refine (PB.field_Field_Check.calls k _ _ _ _ He0.out).mono ?_
    rintro e w1 ⟨rfl, hb1⟩
    have hB1 := HW0.out.trans (hb1.mono (by simp))
    go_wp2
    go_ret2
    exact ⟨rfl, hB1⟩
end Go.Proofs.YtfeciafdioepiaaDoor

/- The contract of field.Print. -/
namespace Go.Proofs.YtfeciafdioepiaaDoor
open Go.RowKit Go.Proofs Go.Proofs.YtfeciafdioepiaaDoorW.PrintWords Go.Proofs.YtfeciafdioepiaaDoor.PA

def GV.Print.go (k : Nat) : List S74 → List UInt8 → Option (ByteArray × Int)
  | [], out => if 65536 < out.length then some (⟨#[]⟩, 5) else some (mkS out, 0)
  | x :: xs, out => (GV.Fold.f k x.f0 x.f1).bind fun p => if p.2 = 0 then (if p.1.size ≤ 4000000 then GV.Print.go k xs (out ++ p.1.data.toList) else none) else some (⟨#[]⟩, p.2)
def GV.Print.f (k : Nat) (l : List S74) : Option (ByteArray × Int) := if 64 < l.length then some (⟨#[]⟩, 9) else GV.Print.go k l []
set_option maxHeartbeats 2000000 in
set_option maxRecDepth 100000 in
theorem GV.Print.calls (k : Nat) (A0 : Option Addr) (c0 : Nat) (l0 : List S74) (r1 : ByteArray) (r2 : Int) (w : World) (hr0 : Kd.C k74 w A0 l0.length l0) (hc0 : l0.length ≤ c0) (h : GV.Print.f k l0 = some (r1, r2)) :
    Calls Tryd.prog 66 #[.slice A0 l0.length c0] w fun e w' => e = .returned (.tuple #[.string r1, .int .i64 r2]) ∧ Below w.heap.size w w' := by
  have HR := Aside0.mk hr0
  have HC0 := Aside0.mk hc0
  clear hr0 hc0
  unfold GV.Print.f at h
  generalize hn : l0.length = n at *
  have Hn := Lib.hid hn
  clear hn
  by_cases h64 : 64 < n
  · rw [if_pos h64] at h
    injection h with h
    injection h with h1 h2
    subst h1 h2
    go_enter Tryd.func66, Tryd.ntmps66
    go_wp2
    go_ret2
    exact ⟨rfl, Below.refl _ _⟩
  · rw [if_neg h64] at h
    have H0 := Aside0.mk h
    have HFB := Aside0.mk (fresh_builder (w := w.alloc (.cells #[.pointer none, .slice none 0 0] 57)) (B := w.heap.size) (b := w.heap.size) (Nat.le_refl _) (by simpa using heap_alloc_new w (.cells #[.pointer none, .slice none 0 0] 57)))
    have HB0 := Aside0.mk ((Below.refl w.heap.size w).alloc (Nat.le_refl _) (.cells #[.pointer none, .slice none 0 0] 57))
    clear h
    go_enter Tryd.func66, Tryd.ntmps66
    go_wp2
    go_loopw [14] (fun v14 wr => ∃ (j : Nat) (out : List UInt8), j ≤ n ∧ v14 = .int .i64 j ∧ Aside0 (GV.Print.go k (l0.drop j) out = some (r1, r2)) ∧ Aside0 (out.length ≤ j * 4000000) ∧ Aside0 (Lib.IsBuilder 57 5 w.heap.size w.heap.size (Lib.byteCells out) wr) ∧ Aside0 (Below w.heap.size w wr)) (fun v14 _ => n - (intOf v14).toNat)
    case atStart => exact ⟨0, [], Nat.zero_le _, rfl, H0, ⟨by simp⟩, HFB, HB0⟩
    case round =>
      obtain ⟨j, out, hj, rfl, HE, HS, HBl, HW⟩ := hrel
      by_cases hlt : j < n
      · obtain ⟨ad, hA, hx0, hx1⟩ := at_T74 HR.out (j : Int) (by omega) (by omega)
        rw [Int.toNat_natCast] at hx0 hx1
        have hget : rd_T74 l0 (j : Int) = l0[j]'(by have := Hn.out; omega) := by
          unfold rd_T74; rw [Int.toNat_natCast, List.getD_eq_getElem?_getD, List.getElem?_eq_getElem (by have := Hn.out; omega)]; rfl
        have hdk : l0.drop j = l0[j]'(by have := Hn.out; omega) :: l0.drop (j + 1) := List.drop_eq_getElem_cons (by have := Hn.out; omega)
        have hE := HE.out
        rw [hdk, ← hget] at hE
        generalize rd_T74 l0 (j : Int) = x at *
        have hy0 := (HW.out.cell (World.block_lt_of_cell? w _ hx0)).trans hx0
        have hy1 := (HW.out.cell (World.block_lt_of_cell? w _ hx1)).trans hx1
        unfold GV.Print.go at hE
        obtain ⟨⟨s1, e1⟩, hf, hE2⟩ := Option.bind_eq_some_iff.mp hE
        simp only at hE2
        have Hf := Lib.hid hf
        have HBX := Aside0.mk (show (wr.alloc (.cells #[.string x.f0, .string x.f1] 74)).heap[wr.heap.size]? = some (.cells #[.string x.f0, .string x.f1] 74 (0, 0)) by simpa using heap_alloc_new wr (.cells #[.string x.f0, .string x.f1] 74))
        have HWa := Aside0.mk (HW.out.alloc HW.out.size (.cells #[.string x.f0, .string x.f1] 74))
        subst hA
        clear hx0 hx1 hget hdk hE hf
        by_cases hz : e1 = 0
        · rw [if_pos hz] at hE2
          subst hz
          split at hE2
          · rename_i hss
            have HE2 := Aside0.mk hE2
            clear hE2
            go_wp2_with fail
            refine (GV.Fold.calls k x.f0 x.f1 s1 0 _ Hf.out).mono ?_
            rintro e w2 ⟨rfl, hb2⟩
            have HBl2 := Aside0.mk (IsBuilder_below (IsBuilder_below HBl.out ((Below.refl _ _).alloc (Nat.le_refl _) (.cells #[.string x.f0, .string x.f1] 74))) hb2)
            have HW2 := Aside0.mk (HWa.out.trans (hb2.mono HWa.out.size))
            have hcells : Lib.byteCells out ++ Lib.strCells s1 = Lib.byteCells (out ++ s1.data.toList) := by rw [str_mk, ← Lib.byteCells_append]
            have Hcells := Lib.hid hcells
            have hsl : s1.data.toList.length = s1.size := by simp
            have Hsl := Lib.hid hsl
            clear hb2 hcells hsl
            go_wp2_with fail
            refine (writeString2 w.heap.size w.heap.size _ s1 _ HBl2.out (by rw [Lib.byteCells_length]; have := HS.out; omega) HW2.out.size).mono ?_
            rintro e w3 ⟨rfl, hb3, hw3, _⟩
            rw [Hcells.out] at hb3
            have HBl3 := Aside0.mk (Or.inr hb3 : Lib.IsBuilder 57 5 w.heap.size w.heap.size (Lib.byteCells (out ++ s1.data.toList)) w3)
            have HW3 := Aside0.mk (HW2.out.trans hw3)
            clear hb3 hw3
            go_wp2
            go_roundw
            case rel => exact ⟨j + 1, out ++ s1.data.toList, by omega, by go_num, HE2, ⟨by rw [List.length_append, Hsl.out]; have := HS.out; omega⟩, HBl3, HW3⟩
            case measure => simp [intOf]; omega
          · cases hE2
        · rw [if_neg hz] at hE2
          injection hE2 with hE2
          injection hE2 with h1 h2
          subst h1 h2
          have hzb : (e1 == 0) = false := beq_eq_false_iff_ne.2 hz
          have hzb2 : (e1 != 0) = true := bne_iff_ne.2 hz
          have Hz := Lib.hid hz
          clear hz
          go_wp2_with fail
          refine (GV.Fold.calls k x.f0 x.f1 s1 e1 _ Hf.out).mono ?_
          rintro e w2 ⟨rfl, hb2⟩
          have HW2 := Aside0.mk (HWa.out.trans (hb2.mono HWa.out.size))
          clear hb2
          go_wp2
          go_ret2
          exact ⟨rfl, HW2.out⟩
      · have hk2 : l0.drop j = [] := List.drop_eq_nil_of_le (by have := Hn.out; omega)
        have hE := HE.out
        rw [hk2] at hE
        unfold GV.Print.go at hE
        have hbl := Lib.byteCells_length out
        by_cases hbig : 65536 < out.length
        · rw [if_pos hbig] at hE
          injection hE with hE
          injection hE with h1 h2
          subst h1 h2
          clear HE
          go_wp2_with fail
          refine (Tryd.Builder_Len w.heap.size w.heap.size _ _ HBl.out).mono ?_
          rintro e w3 ⟨rfl, rfl⟩
          rw [hbl]
          go_wp2
          go_ret2
          exact ⟨rfl, HW.out⟩
        · rw [if_neg hbig] at hE
          injection hE with hE
          injection hE with h1 h2
          subst h2
          have H1 := Lib.hid h1
          clear HE h1
          go_wp2_with fail
          refine (Tryd.Builder_Len w.heap.size w.heap.size _ _ HBl.out).mono ?_
          rintro e w3 ⟨rfl, rfl⟩
          rw [hbl]
          go_wp2_with fail
          refine (Tryd.Builder_String_any w.heap.size w.heap.size _ _ HBl.out HW.out.size).mono ?_
          rintro e w4 ⟨rfl, hw4⟩
          have HW4 := Aside0.mk (HW.out.trans hw4)
          clear hw4
          go_wp2
          go_ret2
          exact ⟨by rw [← H1.out]; rfl, HW4.out⟩

end Go.Proofs.YtfeciafdioepiaaDoor

/- The contract of field.Parse, in the printed form. -/
namespace Go.Proofs.YtfeciafdioepiaaDoor
open Go.RowKit Go.Proofs Go.Proofs.YtfeciafdioepiaaDoorW.PrintWords Go.Proofs.YtfeciafdioepiaaDoor.PA

theorem gm_at {w w1 : World} (h : Gm w) (hb : Below w.heap.size w w1) : Gm w1 := h.below hb (by
  obtain ⟨m, hm⟩ := h
  exact Nat.lt_of_le_of_lt (Nat.zero_le _) (World.block_lt_of_cell? w _ hm))
end Go.Proofs.YtfeciafdioepiaaDoor

/- The contract of known. -/
namespace Go.Proofs.YtfeciafdioepiaaDoor
open Go.RowKit Go.Proofs Go.Proofs.YtfeciafdioepiaaDoorW.PrintWords Go.Proofs.YtfeciafdioepiaaDoor.PA

def GV.known.f : Option Bool := some true
end Go.Proofs.YtfeciafdioepiaaDoor
set_option linter.unusedVariables false
set_option linter.unusedSimpArgs false
namespace Go.Proofs.YtfeciafdioepiaaDoor.GV
open Go.RowKit Go.Proofs Go.Proofs.YtfeciafdioepiaaDoorW.PrintWords Go.Proofs.YtfeciafdioepiaaDoor.PA

def Cut.f (s sep : ByteArray) : Option (ByteArray × ByteArray × Bool) := if sep = ⟨#[10]⟩ ∧ s.size ≤ 140737488355328 then some (mkS (s.data.toList.take (lineN s.data.toList)), mkS (s.data.toList.drop (lineN s.data.toList + 1)), hasNl s.data.toList) else none
theorem Cut.calls (a0 : ByteArray) (a1 : ByteArray) (r1 : ByteArray) (r2 : ByteArray) (r3 : Bool) (w : World) (h : Cut.f a0 a1 = some (r1, r2, r3)) :
    Calls Tryd.prog 92 #[.string a0, .string a1] w fun e w' => e = .returned (.tuple #[.string r1, .string r2, .bool r3]) ∧ Drawn0 w w' := by
  unfold Cut.f at h
  split at h
  · rename_i hh
    obtain ⟨rfl, hs⟩ := hh
    injection h with h
    injection h with h1 h2
    injection h2 with h2 h3
    subst h1 h2 h3
    refine (cut_nl a0 w hs).mono ?_
    rintro e w' ⟨rfl, n, rfl⟩
    exact ⟨rfl, ⟨⟨n, rfl⟩⟩⟩
  · cases h
def badByte.f (s : ByteArray) : Option Int := if s.size ≤ 140737488355328 then some (badU s.data.toList) else none
theorem badByte.calls (a0 : ByteArray) (r : Int) (w : World) (h : badByte.f a0 = some r) :
    Calls Tryd.prog 93 #[.string a0] w fun e w' => e = .returned (.int .i64 r) ∧ Below w.heap.size w w' := by
  unfold badByte.f at h
  split at h
  · injection h with h; subst h; exact badByte_any a0 w (by assumption)
  · cases h
def TrimLeft.f (s cut : ByteArray) : Option ByteArray := if cut = ⟨#[62]⟩ then some (mkS (Lib.trimLeftB s.data.toList 62)) else none
theorem TrimLeft.calls (a0 : ByteArray) (a1 : ByteArray) (r : ByteArray) (w : World) (h : TrimLeft.f a0 a1 = some r) :
    Calls Tryd.prog 33 #[.string a0, .string a1] w fun e w' => e = .returned (.string r) ∧ Drawn0 w w' := by
  unfold TrimLeft.f at h
  split at h
  · rename_i hh
    subst hh
    injection h with h; subst h
    refine (Tryd.strings_TrimLeft_one a0 62 (by decide) w).mono ?_
    rintro e w' ⟨rfl, rfl⟩
    exact ⟨rfl, Drawn0.refl _⟩
  · cases h
end Go.Proofs.YtfeciafdioepiaaDoor.GV
set_option linter.unusedVariables false
set_option linter.unusedSimpArgs false
namespace Go.Proofs.YtfeciafdioepiaaDoor
open Go.RowKit Go.Shelf Go.Proofs Go.Proofs.YtfeciafdioepiaaDoorW.PrintWords Go.Proofs.YtfeciafdioepiaaDoorW.PrintMore Go.Proofs.YtfeciafdioepiaaDoor.PA

/-- How many quotation marks a line begins with, and what is behind them. -/
def isMark (c : UInt8) : Bool := c == 62
def markN (l : List UInt8) : Nat := spanL isMark l
def restL (l : List UInt8) : List UInt8 := if markN l = 0 then l.drop (markN l) else if (l.drop (markN l)).head? = some 32 then (l.drop (markN l)).drop 1 else l.drop (markN l)

set_option maxHeartbeats 1000000 in
set_option maxRecDepth 100000 in
theorem refLevel_any (s : ByteArray) (w : World) (hs : s.size ≤ 140737488355328) : Calls Tryd.prog 16 #[.string s] w fun e w' => e = .returned (.tuple #[.int .i64 (markN s.data.toList), .string (mkS (restL s.data.toList))]) ∧ Drawn0 w w' := by
  have hlen : s.data.toList.length = s.size := by simp
  have Hlen := Lib.hid hlen
  clear hlen
  go_enter Tryd.func16, Tryd.ntmps16
  go_wp2
  go_loopw [4] (fun v4 wr => ∃ k : Nat, k ≤ s.size ∧ v4 = .int .i64 k ∧ Aside0 (spanA isMark s.data.toList k = markN s.data.toList) ∧ Drawn0 w wr) (fun v4 _ => s.size - (intOf v4).toNat)
  case atStart => exact ⟨0, Nat.zero_le _, rfl, ⟨by unfold spanA markN; simp⟩, Drawn0.refl _⟩
  case round =>
    obtain ⟨k, hk, rfl, HE, ⟨n, rfl⟩⟩ := hrel
    have hend : spanA isMark s.data.toList k = k → markN s.data.toList = k := fun h => HE.out.symm.trans h
    have ht2 := extract_tailS s k
    by_cases hlt : k < s.size
    · have hk' : k < s.data.toList.length := by have := Hlen.out; omega
      have hg : s.data.toList[k] = s[k] := by rw [Array.getElem_toList]; rfl
      have hdc := List.drop_eq_getElem_cons hk'
      have hyes := spanA_yes (p := isMark) (l := s.data.toList) (i := k) hk'
      have hno := spanA_no (p := isMark) (l := s.data.toList) (i := k) hk'
      rw [hg] at hdc hyes hno
      generalize hc : s[k] = c at *
      have Hdc := Lib.hid hdc
      have Hyes := Lib.hid hyes
      have Hno := Lib.hid hno
      have Hend := Lib.hid hend
      have Ht2 := Lib.hid ht2
      clear hdc hyes hno hg hend ht2
      rcases Bool.eq_false_or_eq_true (isMark c) with hm | hm
      · have hcm : ((c.toNat : Int) == 62) = true := by unfold isMark at hm; rw [beq_iff_eq] at hm; subst hm; rfl
        have Hm := Lib.hid hm
        clear hm
        go_wp2
        go_roundw
        case rel => exact ⟨k + 1, by omega, by go_num, ⟨by rw [← Hyes.out Hm.out, HE.out]⟩, ⟨⟨n, rfl⟩⟩⟩
        case measure => simp [intOf]; omega
      · have hcm : ((c.toNat : Int) == 62) = false := by unfold isMark at hm; rw [beq_eq_false_iff_ne] at hm ⊢; intro h; exact hm ((toNat_int c 62 (by omega)).1 h)
        have hmk : markN s.data.toList = k := Hend.out (Hno.out hm)
        have hrl : restL s.data.toList = if k = 0 then c :: s.data.toList.drop (k + 1) else if c = 32 then s.data.toList.drop (k + 1) else c :: s.data.toList.drop (k + 1) := by
          unfold restL; rw [hmk, Hdc.out]
          by_cases h0 : k = 0
          · rw [if_pos h0, if_pos h0]
          · rw [if_neg h0, if_neg h0]; simp
        have Hmk := Lib.hid hmk
        have Hrl := Lib.hid hrl
        clear hm hmk hrl
        obtain ⟨t, ht⟩ : ∃ t, s.extract k s.size = t := ⟨_, rfl⟩
        have hts : t = mkS (c :: s.data.toList.drop (k + 1)) := by rw [← ht, Ht2.out, Hdc.out]
        have htz : 0 < t.size := by rw [hts, mkS_size]; simp
        have ht0 : t[0] = c := by subst hts; rfl
        have htl : t.toList.isEmpty = false := by rw [Lib.toList_data, hts, mkS_toList]; rfl
        have htl2 : t.toList ≠ [] := by rw [Lib.toList_data, hts, mkS_toList]; simp
        have htd : t.extract 1 t.size = mkS (s.data.toList.drop (k + 1)) := by rw [extract_tailS, hts, mkS_toList]; rfl
        have Hts := Lib.hid hts
        have Htd := Lib.hid htd
        clear hts htd
        by_cases h0 : k = 0
        · subst h0
          go_wp2
          go_ret2
          have hres : mkS (restL s.data.toList) = t := by rw [Hrl.out, Hts.out]; rfl
          exact ⟨by rw [Hmk.out, hres]; rfl, ⟨⟨n, rfl⟩⟩⟩
        · have hk0 : decide ((k : Int) > 0) = true := decide_eq_true (by omega)
          by_cases h32 : c = 32
          · have hc32 : ((c.toNat : Int) == 32) = true := by subst h32; rfl
            go_wp2
            go_ret2
            have hres : mkS (restL s.data.toList) = t.extract 1 t.size := by rw [Hrl.out, Htd.out, if_neg h0, if_pos h32]
            exact ⟨by rw [Hmk.out, hres]; rfl, ⟨⟨n, rfl⟩⟩⟩
          · have hc32 : ((c.toNat : Int) == 32) = false := by rw [beq_eq_false_iff_ne]; intro h; exact h32 ((toNat_int c 32 (by omega)).1 h)
            go_wp2
            go_ret2
            have hres : mkS (restL s.data.toList) = t := by rw [Hrl.out, Hts.out, if_neg h0, if_neg h32]
            exact ⟨by rw [Hmk.out, hres]; rfl, ⟨⟨n, rfl⟩⟩⟩
    · have hke : k = s.size := by omega
      subst hke
      have hst := spanA_stop (p := isMark) (l := s.data.toList) (i := s.size) (by have := Hlen.out; omega)
      have hmk : markN s.data.toList = s.size := hend hst
      have hrl : restL s.data.toList = [] := by
        unfold restL; rw [hmk, List.drop_eq_nil_of_le (by have := Hlen.out; omega)]
        simp
      have ht3 : s.extract s.size s.size = ⟨#[]⟩ := by rw [ht2, List.drop_eq_nil_of_le (by have := Hlen.out; omega)]; rfl
      have Hmk := Lib.hid hmk
      have Hrl := Lib.hid hrl
      clear hmk hrl hst hend ht2
      go_wp2
      all_goals go_ret2
      all_goals exact ⟨by rw [Hmk.out, Hrl.out]; rfl, ⟨⟨n, rfl⟩⟩⟩

/-! ### The program's Level -/
theorem trimLeft_mark (l : List UInt8) : Lib.trimLeftB l 62 = l.drop (markN l) := by
  unfold Lib.trimLeftB markN
  induction l with
  | nil => rfl
  | cons c l ih =>
    simp only [spanL]
    have e : isMark c = (c == 62) := rfl
    by_cases h : (c == 62) = true
    · rw [List.dropWhile_cons, if_pos h, e, if_pos h, ih]; rfl
    · rw [List.dropWhile_cons, if_neg h, e, if_neg h]; rfl
theorem trimPrefix_space (l : List UInt8) : Lib.trimPrefix l [32] = if l.head? = some 32 then l.drop 1 else l := by
  unfold Lib.trimPrefix Lib.hasPrefix
  cases l with
  | nil => rfl
  | cons c l =>
    by_cases h : c = 32
    · subst h; simp [List.isPrefixOf]
    · have h2 : (32 == c) = false := by rw [beq_eq_false_iff_ne]; exact fun e => h e.symm
      simp [List.isPrefixOf, h2, h]
set_option maxHeartbeats 1000000 in
set_option maxRecDepth 100000 in
theorem level_any (s : ByteArray) (w : World) (hs : s.size ≤ 140737488355328) : Calls Tryd.prog 15 #[.string s] w fun e w' => e = .returned (.tuple #[.int .i64 (markN s.data.toList), .string (mkS (restL s.data.toList))]) ∧ Drawn0 w w' := by
  have hlen : s.data.toList.length = s.size := by simp
  have hle : markN s.data.toList ≤ s.size := by rw [← hlen]; exact spanL_le _ _
  have htl := fun w => Tryd.strings_TrimLeft_one s 62 (by decide) w
  have e1 : (⟨(Lib.trimLeftB s.data.toList 62).toArray⟩ : ByteArray) = mkS (s.data.toList.drop (markN s.data.toList)) := by rw [trimLeft_mark]; rfl
  rw [e1] at htl
  have htp := fun w => Tryd.strings_TrimPrefix (mkS (s.data.toList.drop (markN s.data.toList))) ⟨#[32]⟩ w
  have e2 : (⟨(Lib.trimPrefix (mkS (s.data.toList.drop (markN s.data.toList))).data.toList (⟨#[32]⟩ : ByteArray).data.toList).toArray⟩ : ByteArray) = mkS (if (s.data.toList.drop (markN s.data.toList)).head? = some 32 then (s.data.toList.drop (markN s.data.toList)).drop 1 else s.data.toList.drop (markN s.data.toList)) := by
    rw [mkS_toList, show (⟨#[32]⟩ : ByteArray).data.toList = [32] from rfl, trimPrefix_space]; rfl
  rw [e2] at htp
  have hsz : (mkS (s.data.toList.drop (markN s.data.toList))).size = s.size - markN s.data.toList := by rw [mkS_size, List.length_drop, hlen]
  have hr : restL s.data.toList = if markN s.data.toList = 0 then s.data.toList.drop (markN s.data.toList) else (if (s.data.toList.drop (markN s.data.toList)).head? = some 32 then (s.data.toList.drop (markN s.data.toList)).drop 1 else s.data.toList.drop (markN s.data.toList)) := rfl
  rw [hr]
  generalize (if (s.data.toList.drop (markN s.data.toList)).head? = some 32 then (s.data.toList.drop (markN s.data.toList)).drop 1 else s.data.toList.drop (markN s.data.toList)) = r2 at *
  generalize hn : markN s.data.toList = n at *
  generalize s.data.toList.drop n = r1 at *
  have Htl := Lib.hid htl
  have Htp := Lib.hid htp
  have hsz2 : ((mkS r1).size : Int) = (s.size : Int) - n := by omega
  generalize hq : mkS r1 = q at *
  have Hq := Lib.hid hq
  clear hlen htl htp e1 e2 hr hn hsz hq
  have hw : wrap64 ((s.size : Int) - (q.size : Int)) = (n : Int) := by unfold wrap64; omega
  by_cases h0 : n = 0
  · subst h0
    have hz : (q.size : Int) = s.size := by omega
    have Hz := Lib.hid hz
    clear hz hsz2 hw
    have hqs : q.size = s.size := by have := Hz.out; omega
    go_enter Tryd.func15, Tryd.ntmps15
    go_wp2_with (go_at_call 33; refine (Htl.out _).mono ?_; rintro e w' ⟨rfl, rfl⟩)
    go_ret2
    have hres : mkS r1 = q := Hq.out
    exact ⟨by rw [hres]; rfl, ⟨⟨0, rfl⟩⟩⟩
  · have Hsz2 := Lib.hid hsz2
    clear hsz2
    have hn0 : decide ((n : Int) > 0) = true := decide_eq_true (by omega)
    go_enter Tryd.func15, Tryd.ntmps15
    go_wp2_with (first | (go_at_call 33; refine (Htl.out _).mono ?_; rintro e w' ⟨rfl, rfl⟩) | (go_at_call 34; refine (Htp.out _).mono ?_; rintro e w' ⟨rfl, rfl⟩))
    go_ret2
    exact ⟨rfl, ⟨⟨0, rfl⟩⟩⟩
end Go.Proofs.YtfeciafdioepiaaDoor
namespace Go.Proofs.YtfeciafdioepiaaDoor.GV
open Go.RowKit Go.Proofs Go.Proofs.YtfeciafdioepiaaDoorW.PrintWords Go.Proofs.YtfeciafdioepiaaDoor.PA
end Go.Proofs.YtfeciafdioepiaaDoor.GV
namespace Go.Proofs.YtfeciafdioepiaaDoor.PA
open Go.RowKit Go.Proofs Go.Proofs.YtfeciafdioepiaaDoorW.PrintWords
/-- The reference's Level in the printed form, by hand. -/
def bulletinref15_Level.f (k : Nat) (s : ByteArray) : Option (Int × ByteArray) := if s.size ≤ 140737488355328 then some ((markN s.data.toList : Int), mkS (restL s.data.toList)) else none
theorem bulletinref15_Level.calls (k : Nat) (a0 : ByteArray) (r1 : Int) (r2 : ByteArray) (w : World) (h : bulletinref15_Level.f k a0 = some (r1, r2)) :
    Calls Tryd.prog 16 #[.string a0] w fun e w' => e = .returned (.tuple #[.int .i64 r1, .string r2]) ∧ Drawn0 w w' := by
  unfold bulletinref15_Level.f at h
  split at h
  · injection h with h; injection h with h1 h2; subst h1 h2; exact refLevel_any a0 w (by assumption)
  · cases h
end Go.Proofs.YtfeciafdioepiaaDoor.PA
namespace Go.Proofs.YtfeciafdioepiaaDoor.PC
open Go.Proofs.YtfeciafdioepiaaDoor.PA
open Go.Proofs.YtfeciafdioepiaaDoor
open Go.RowKit Go.Proofs.YtfeciafdioepiaaDoorW.PrintWords Go.Proofs.YtfeciafdioepiaaDoorW.PrintLast Go.Proofs.YtfeciafdioepiaaDoorW.PrintMore
attribute [local go_sem] max2_int min2_int max_two min_two max_three min_three max_four min_four   -- for this text's walks alone
set_option linter.unusedVariables false
set_option linter.unusedSimpArgs false

/-! ### article_Level: function 15 -/
def article_Level.f (a0 : ByteArray) : Option (Int × ByteArray) := (GV.TrimLeft.f a0 (⟨#[62]⟩ : ByteArray)).bind fun t101 => (if (wrap64 ((a0.size : Int) - (t101.size : Int))) > 0 then ((PA.strings_TrimPrefix.f t101 (⟨#[32]⟩ : ByteArray)).bind fun t102 => (some (wrap64 ((a0.size : Int) - (t101.size : Int)), t102))) else (some (wrap64 ((a0.size : Int) - (t101.size : Int)), t101)))
set_option maxHeartbeats 8000000 in
set_option maxRecDepth 100000 in
theorem article_Level.calls (a0 : ByteArray) (r1 : Int) (r2 : ByteArray) (w : World) (h : article_Level.f a0 = some (r1, r2)) :
    Calls Tryd.prog 15 #[.string a0] w fun e w' => e = .returned (.tuple #[.int .i64 r1, .string r2]) ∧ Drawn0 w w' := by
  have H : ((GV.TrimLeft.f a0 (⟨#[62]⟩ : ByteArray)).bind fun t101 => (if (wrap64 ((a0.size : Int) - (t101.size : Int))) > 0 then ((PA.strings_TrimPrefix.f t101 (⟨#[32]⟩ : ByteArray)).bind fun t102 => (some (wrap64 ((a0.size : Int) - (t101.size : Int)), t102))) else (some (wrap64 ((a0.size : Int) - (t101.size : Int)), t101)))) = some (r1, r2) := h
  clear h
  replace H := Option.bind_eq_some_iff.mp H
  obtain ⟨t101, A20, H⟩ := H
  replace H : (if (wrap64 ((a0.size : Int) - (t101.size : Int))) > 0 then ((PA.strings_TrimPrefix.f t101 (⟨#[32]⟩ : ByteArray)).bind fun t102 => (some (wrap64 ((a0.size : Int) - (t101.size : Int)), t102))) else (some (wrap64 ((a0.size : Int) - (t101.size : Int)), t101))) = some (r1, r2) := H
  have A2 := Aside0.mk A20
  clear A20
  by_cases c3 : (wrap64 ((a0.size : Int) - (t101.size : Int))) > 0
  · rw [if_pos c3] at H
    have c3b0 : decide (0 < (wrap64 ((a0.size : Int) - (t101.size : Int)))) = true := decide_eq_true c3
    clear c3
    replace H := Option.bind_eq_some_iff.mp H
    obtain ⟨t102, A40, H⟩ := H
    replace H : (some (wrap64 ((a0.size : Int) - (t101.size : Int)), t102)) = some (r1, r2) := H
    have A4 := Aside0.mk A40
    clear A40
    simp only [Option.some.injEq, Prod.mk.injEq] at H
    obtain ⟨rfl, rfl⟩ := H
    go_enter Tryd.func15, Tryd.ntmps15
    go_wp2_with (first | ((with_reducible refine gate_callee (f := 33) rfl ?_); refine goesL_ (some 5) rfl rfl Tryd.func33 (by kernel_rfl) rfl #[.string a0, .string (⟨#[62]⟩ : ByteArray)] rfl (by (try simp only [List.map_toArray, List.map_cons, List.map_nil]); first | done | rfl | (simp only [List.length_drop, List.length_take]; rfl)) ?_; (with_reducible refine (GV.TrimLeft.calls a0 (⟨#[62]⟩ : ByteArray) t101 _ A2.out).mono ?_); rintro e w' ⟨rfl, ⟨nd, rfl⟩⟩; refine ⟨_, rfl, ?_⟩) | ((with_reducible refine gate_callee (f := 34) rfl ?_); refine goesL_ (some 14) rfl rfl Tryd.func34 (by kernel_rfl) rfl #[.string t101, .string (⟨#[32]⟩ : ByteArray)] rfl (by (try simp only [List.map_toArray, List.map_cons, List.map_nil]); first | done | rfl | (simp only [List.length_drop, List.length_take]; rfl)) ?_; (with_reducible refine (PA.strings_TrimPrefix.calls t101 (⟨#[32]⟩ : ByteArray) t102 _ A4.out).mono ?_); rintro e w' ⟨rfl, ⟨nd, rfl⟩⟩; refine ⟨_, rfl, ?_⟩))
    go_ret2
    exact ⟨by first | rfl | (simp; done) | (simp [*]; done), by repeat (first | exact Drawn0.refl _ | apply Drawn0.step)⟩
  · rw [if_neg c3] at H
    have c3b0 : decide (0 < (wrap64 ((a0.size : Int) - (t101.size : Int)))) = false := decide_eq_false c3
    clear c3
    simp only [Option.some.injEq, Prod.mk.injEq] at H
    obtain ⟨rfl, rfl⟩ := H
    go_enter Tryd.func15, Tryd.ntmps15
    go_wp2_with (first | ((with_reducible refine gate_callee (f := 33) rfl ?_); refine goesL_ (some 5) rfl rfl Tryd.func33 (by kernel_rfl) rfl #[.string a0, .string (⟨#[62]⟩ : ByteArray)] rfl (by (try simp only [List.map_toArray, List.map_cons, List.map_nil]); first | done | rfl | (simp only [List.length_drop, List.length_take]; rfl)) ?_; (with_reducible refine (GV.TrimLeft.calls a0 (⟨#[62]⟩ : ByteArray) t101 _ A2.out).mono ?_); rintro e w' ⟨rfl, ⟨nd, rfl⟩⟩; refine ⟨_, rfl, ?_⟩))
    go_ret2
    exact ⟨by first | rfl | (simp; done) | (simp [*]; done), by repeat (first | exact Drawn0.refl _ | apply Drawn0.step)⟩

-- NOT PRINTED: function 35 (article_Parse)

/-! ### article_CheckBody: function 67 -/
def article_CheckBody.l0 : Nat → ByteArray → Int → Option (Int × Int)
  | 0, _, _ => none
  | k + 1, x0, x4 => if x4 < (x0.size : Int) then (if 0 ≤ x4 then (if x4 ≤ (x0.size : Int) then ((GV.Cut.f (x0.extract (x4 : Int).toNat x0.size) (⟨#[10]⟩ : ByteArray)).bind fun bt105 => (if bt105.2.2 = true then (if (bt105.1.size : Int) > 998 then (some (wrap64 (x4 + 998), 5)) else ((GV.badByte.f bt105.1).bind fun t108 => (if t108 ≥ 0 then (some (wrap64 (x4 + t108), 6)) else (article_CheckBody.l0 k x0 (wrap64 (x4 + (wrap64 ((bt105.1.size : Int) + 1)))))))) else (some ((x0.size : Int), 4)))) else (none)) else (none)) else (some (0, 0))
def article_CheckBody.f (k : Nat) (a0 : ByteArray) : Option (Int × Int) := article_CheckBody.l0 k a0 0
set_option maxHeartbeats 8000000 in
set_option maxRecDepth 100000 in
theorem article_CheckBody.calls (k : Nat) (a0 : ByteArray) (r1 : Int) (r2 : Int) (w : World) (h : article_CheckBody.f k a0 = some (r1, r2)) :
    Calls Tryd.prog 67 #[.string a0] w fun e w' => e = .returned (.tuple #[.int .i64 r1, .int .i64 r2]) ∧ Below w.heap.size w w' := by
  have HB := Aside0.mk (Below.refl w.heap.size w)
  have H : (article_CheckBody.l0 k a0 0) = some (r1, r2) := h
  clear h
  have H' := Aside0.mk H
  clear H
  go_enter Tryd.func67, Tryd.ntmps67
  go_wp2
  go_loopg [4] k (fun kq v4 w' => ∃ (x4_1 : Int), v4 = .int .i64 x4_1 ∧ Aside0 (article_CheckBody.l0 kq a0 x4_1 = some (r1, r2)) ∧ Aside0 (kq ≤ k) ∧ Aside0 (Below w.heap.size w w'))
  case atStart => exact ⟨(0), (by first | rfl | (simp; done) | (simp [*]; done)), H', ⟨Nat.le_refl _⟩, ⟨by repeat (first | (with_reducible first | exact HB.out | apply below_alloc | apply pw_below_drewN | apply below_drew1) | exact HB.out)⟩⟩
  case round =>
    clear H'
    obtain ⟨x4_1, rfl, HA, HK1, HB⟩ := hrel
    cases gk with
    | zero => exact absurd HA.out (by simp [article_CheckBody.l0])
    | succ k1 =>
      have H := HA.out
      clear HA
      simp only [article_CheckBody.l0] at H
      by_cases c2 : x4_1 < (a0.size : Int)
      · rw [if_pos c2] at H
        have c2b0 : decide (x4_1 < (a0.size : Int)) = true := decide_eq_true c2
        clear c2
        by_cases c3 : 0 ≤ x4_1
        · rw [if_pos c3] at H
          have c3b0 := eq_true c3
          have c3b1 : decide (0 ≤ x4_1) = true := decide_eq_true c3
          clear c3
          by_cases c4 : x4_1 ≤ (a0.size : Int)
          · rw [if_pos c4] at H
            have c4b0 := eq_true c4
            have c4b1 : decide (x4_1 ≤ (a0.size : Int)) = true := decide_eq_true c4
            clear c4
            replace H := Option.bind_eq_some_iff.mp H
            obtain ⟨⟨t105, t106, t107⟩, A50, H⟩ := H
            replace H : (if t107 = true then (if (t105.size : Int) > 998 then (some (wrap64 (x4_1 + 998), 5)) else ((GV.badByte.f t105).bind fun t108 => (if t108 ≥ 0 then (some (wrap64 (x4_1 + t108), 6)) else (article_CheckBody.l0 k1 a0 (wrap64 (x4_1 + (wrap64 ((t105.size : Int) + 1)))))))) else (some ((a0.size : Int), 4))) = some (r1, r2) := H
            have A5 := Aside0.mk A50
            clear A50
            by_cases c6 : t107 = true
            · subst c6
              have H1 : (if (t105.size : Int) > 998 then (some (wrap64 (x4_1 + 998), 5)) else ((GV.badByte.f t105).bind fun t108 => (if t108 ≥ 0 then (some (wrap64 (x4_1 + t108), 6)) else (article_CheckBody.l0 k1 a0 (wrap64 (x4_1 + (wrap64 ((t105.size : Int) + 1)))))))) = some (r1, r2) := by rw [if_pos rfl] at H; exact H
              clear H
              have H := H1
              clear H1
              by_cases c7 : (t105.size : Int) > 998
              · rw [if_pos c7] at H
                have c7b0 : decide (998 < (t105.size : Int)) = true := decide_eq_true c7
                have c7b1 : decide (998 < t105.size) = true := decide_eq_true (by omega)
                clear c7
                simp only [Option.some.injEq, Prod.mk.injEq] at H
                obtain ⟨rfl, rfl⟩ := H
                go_wp2_with (first | ((with_reducible refine gate_callee (f := 92) rfl ?_); refine goesL_ (some 17) rfl rfl Tryd.func92 (by kernel_rfl) rfl #[.string (a0.extract (x4_1 : Int).toNat a0.size), .string (⟨#[10]⟩ : ByteArray)] rfl (by (try simp only [List.map_toArray, List.map_cons, List.map_nil]); first | done | rfl | (simp only [List.length_drop, List.length_take]; rfl)) ?_; (with_reducible refine (GV.Cut.calls (a0.extract (x4_1 : Int).toNat a0.size) (⟨#[10]⟩ : ByteArray) t105 t106 true _ A5.out).mono ?_); rintro e w' ⟨rfl, ⟨nd, rfl⟩⟩; refine ⟨_, rfl, ?_⟩))
                go_ret2
                exact ⟨by first | rfl | (simp [errW_none, errW_some] <;> rfl) | (simp [*, errW_none, errW_some] <;> rfl), by repeat (first | (with_reducible first | exact HB.out | apply below_alloc | apply pw_below_drewN | apply below_drew1) | exact HB.out)⟩
              · rw [if_neg c7] at H
                have c7b0 : decide (998 < (t105.size : Int)) = false := decide_eq_false c7
                have c7b1 : decide (998 < t105.size) = false := decide_eq_false (by omega)
                clear c7
                replace H := Option.bind_eq_some_iff.mp H
                obtain ⟨t108, A80, H⟩ := H
                replace H : (if t108 ≥ 0 then (some (wrap64 (x4_1 + t108), 6)) else (article_CheckBody.l0 k1 a0 (wrap64 (x4_1 + (wrap64 ((t105.size : Int) + 1)))))) = some (r1, r2) := H
                have A8 := Aside0.mk A80
                clear A80
                by_cases c9 : t108 ≥ 0
                · rw [if_pos c9] at H
                  have c9b0 : decide (0 ≤ t108) = true := decide_eq_true c9
                  clear c9
                  simp only [Option.some.injEq, Prod.mk.injEq] at H
                  obtain ⟨rfl, rfl⟩ := H
                  go_wp2_with (first | ((with_reducible refine gate_callee (f := 92) rfl ?_); refine goesL_ (some 17) rfl rfl Tryd.func92 (by kernel_rfl) rfl #[.string (a0.extract (x4_1 : Int).toNat a0.size), .string (⟨#[10]⟩ : ByteArray)] rfl (by (try simp only [List.map_toArray, List.map_cons, List.map_nil]); first | done | rfl | (simp only [List.length_drop, List.length_take]; rfl)) ?_; (with_reducible refine (GV.Cut.calls (a0.extract (x4_1 : Int).toNat a0.size) (⟨#[10]⟩ : ByteArray) t105 t106 true _ A5.out).mono ?_); rintro e w' ⟨rfl, ⟨nd, rfl⟩⟩; refine ⟨_, rfl, ?_⟩) | ((with_reducible refine gate_callee (f := 93) rfl ?_); refine goesL_ (some 33) rfl rfl Tryd.func93 (by kernel_rfl) rfl #[.string t105] rfl (by (try simp only [List.map_toArray, List.map_cons, List.map_nil]); first | done | rfl | (simp only [List.length_drop, List.length_take]; rfl)) ?_; (with_reducible refine (GV.badByte.calls t105 t108 _ A8.out).mono ?_); rintro e w10 ⟨rfl, hb⟩; refine ⟨_, rfl, ?_⟩; have n0_ := Aside0.mk (below_step (by repeat (first | (with_reducible first | exact HB.out | apply below_alloc | apply pw_below_drewN | apply below_drew1) | exact HB.out)) hb); clear HB; have HB := n0_; clear n0_; (try clear hb); (try clear hb2); (try clear hk); (try clear hi)))
                  go_ret2
                  exact ⟨by first | rfl | (simp [errW_none, errW_some] <;> rfl) | (simp [*, errW_none, errW_some] <;> rfl), by repeat (first | (with_reducible first | exact HB.out | apply below_alloc | apply pw_below_drewN | apply below_drew1) | exact HB.out)⟩
                · rw [if_neg c9] at H
                  have c9b0 : decide (0 ≤ t108) = false := decide_eq_false c9
                  clear c9
                  have H' := Aside0.mk H
                  clear H
                  go_wp2_with (first | ((with_reducible refine gate_callee (f := 92) rfl ?_); refine goesL_ (some 17) rfl rfl Tryd.func92 (by kernel_rfl) rfl #[.string (a0.extract (x4_1 : Int).toNat a0.size), .string (⟨#[10]⟩ : ByteArray)] rfl (by (try simp only [List.map_toArray, List.map_cons, List.map_nil]); first | done | rfl | (simp only [List.length_drop, List.length_take]; rfl)) ?_; (with_reducible refine (GV.Cut.calls (a0.extract (x4_1 : Int).toNat a0.size) (⟨#[10]⟩ : ByteArray) t105 t106 true _ A5.out).mono ?_); rintro e w' ⟨rfl, ⟨nd, rfl⟩⟩; refine ⟨_, rfl, ?_⟩) | ((with_reducible refine gate_callee (f := 93) rfl ?_); refine goesL_ (some 33) rfl rfl Tryd.func93 (by kernel_rfl) rfl #[.string t105] rfl (by (try simp only [List.map_toArray, List.map_cons, List.map_nil]); first | done | rfl | (simp only [List.length_drop, List.length_take]; rfl)) ?_; (with_reducible refine (GV.badByte.calls t105 t108 _ A8.out).mono ?_); rintro e w11 ⟨rfl, hb⟩; refine ⟨_, rfl, ?_⟩; have n0_ := Aside0.mk (below_step (by repeat (first | (with_reducible first | exact HB.out | apply below_alloc | apply pw_below_drewN | apply below_drew1) | exact HB.out)) hb); clear HB; have HB := n0_; clear n0_; (try clear hb); (try clear hb2); (try clear hk); (try clear hi)))
                  go_roundg k1
                  case measure => have := HK1.out; omega
                  case rel => exact ⟨(wrap64 (x4_1 + (wrap64 ((t105.size : Int) + 1)))), (by first | rfl | (simp; done) | (simp [*]; done)), H', ⟨by have := HK1.out; omega⟩, ⟨by repeat (first | (with_reducible first | exact HB.out | apply below_alloc | apply pw_below_drewN | apply below_drew1) | exact HB.out)⟩⟩
            · replace c6 := Bool.eq_false_iff.mpr c6
              subst c6
              have H1 : (some ((a0.size : Int), 4)) = some (r1, r2) := by rw [if_neg (show ¬ (false = true) by decide)] at H; exact H
              clear H
              have H := H1
              clear H1
              simp only [Option.some.injEq, Prod.mk.injEq] at H
              obtain ⟨rfl, rfl⟩ := H
              go_wp2_with (first | ((with_reducible refine gate_callee (f := 92) rfl ?_); refine goesL_ (some 17) rfl rfl Tryd.func92 (by kernel_rfl) rfl #[.string (a0.extract (x4_1 : Int).toNat a0.size), .string (⟨#[10]⟩ : ByteArray)] rfl (by (try simp only [List.map_toArray, List.map_cons, List.map_nil]); first | done | rfl | (simp only [List.length_drop, List.length_take]; rfl)) ?_; (with_reducible refine (GV.Cut.calls (a0.extract (x4_1 : Int).toNat a0.size) (⟨#[10]⟩ : ByteArray) t105 t106 false _ A5.out).mono ?_); rintro e w' ⟨rfl, ⟨nd, rfl⟩⟩; refine ⟨_, rfl, ?_⟩))
              go_ret2
              exact ⟨by first | rfl | (simp [errW_none, errW_some] <;> rfl) | (simp [*, errW_none, errW_some] <;> rfl), by repeat (first | (with_reducible first | exact HB.out | apply below_alloc | apply pw_below_drewN | apply below_drew1) | exact HB.out)⟩
          · rw [if_neg c4] at H
            exact absurd H (by simp)
        · rw [if_neg c3] at H
          exact absurd H (by simp)
      · rw [if_neg c2] at H
        have c2b0 : decide (x4_1 < (a0.size : Int)) = false := decide_eq_false c2
        clear c2
        simp only [Option.some.injEq, Prod.mk.injEq] at H
        obtain ⟨rfl, rfl⟩ := H
        go_wp2
        go_ret2
        exact ⟨by first | rfl | (simp [errW_none, errW_some] <;> rfl) | (simp [*, errW_none, errW_some] <;> rfl), by repeat (first | (with_reducible first | exact HB.out | apply below_alloc | apply pw_below_drewN | apply below_drew1) | exact HB.out)⟩

/-! ### article_Print: function 36 -/
def article_Print.f (k : Nat) (l0_0 : List (S74)) (a0_1 : ByteArray) : Option (ByteArray × Int) := (GV.Print.f k l0_0).bind fun bt110 => (if bt110.2 = 0 then ((article_CheckBody.f k a0_1).bind fun bt112 => (if bt112.2 = 0 then (if (wrap64 ((wrap64 ((bt110.1.size : Int) + 1)) + (a0_1.size : Int))) > 65536 then (some ((⟨#[]⟩ : ByteArray), 5)) else (if bt110.1.size + 1 ≤ 9223372036854775807 then (if (bt110.1 ++ (⟨#[10]⟩ : ByteArray)).size + a0_1.size ≤ 9223372036854775807 then (some ((bt110.1 ++ (⟨#[10]⟩ : ByteArray)) ++ a0_1, 0)) else (none)) else (none))) else (some ((⟨#[]⟩ : ByteArray), bt112.2)))) else (some ((⟨#[]⟩ : ByteArray), bt110.2)))
set_option maxHeartbeats 8000000 in
set_option maxRecDepth 100000 in
theorem article_Print.calls (k : Nat) (A0_0 : Option Addr) (c0_0 : Nat) (l0_0 : List (S74)) (a0_1 : ByteArray) (r1 : ByteArray) (r2 : Int) (w : World) (hr0_0 : Kd.C k74 w A0_0 l0_0.length l0_0) (hc0_0 : l0_0.length ≤ c0_0) (h : article_Print.f k l0_0 a0_1 = some (r1, r2)) :
    Calls Tryd.prog 36 #[.agg #[.slice A0_0 l0_0.length c0_0, .string a0_1]] w fun e w' => e = .returned (.tuple #[.string r1, .int .i64 r2]) ∧ Below w.heap.size w w' := by
  have hu69 := Tryd.underlying69
  have HR0_0 := Aside0.mk hr0_0
  have HC0_0 := Aside0.mk hc0_0
  clear hr0_0 hc0_0
  have HB := Aside0.mk (Below.refl w.heap.size w)
  have H : ((GV.Print.f k l0_0).bind fun bt110 => (if bt110.2 = 0 then ((article_CheckBody.f k a0_1).bind fun bt112 => (if bt112.2 = 0 then (if (wrap64 ((wrap64 ((bt110.1.size : Int) + 1)) + (a0_1.size : Int))) > 65536 then (some ((⟨#[]⟩ : ByteArray), 5)) else (if bt110.1.size + 1 ≤ 9223372036854775807 then (if (bt110.1 ++ (⟨#[10]⟩ : ByteArray)).size + a0_1.size ≤ 9223372036854775807 then (some ((bt110.1 ++ (⟨#[10]⟩ : ByteArray)) ++ a0_1, 0)) else (none)) else (none))) else (some ((⟨#[]⟩ : ByteArray), bt112.2)))) else (some ((⟨#[]⟩ : ByteArray), bt110.2)))) = some (r1, r2) := h
  clear h
  replace H := Option.bind_eq_some_iff.mp H
  obtain ⟨⟨t110, t111⟩, A20, H⟩ := H
  replace H : (if t111 = 0 then ((article_CheckBody.f k a0_1).bind fun bt112 => (if bt112.2 = 0 then (if (wrap64 ((wrap64 ((t110.size : Int) + 1)) + (a0_1.size : Int))) > 65536 then (some ((⟨#[]⟩ : ByteArray), 5)) else (if t110.size + 1 ≤ 9223372036854775807 then (if (t110 ++ (⟨#[10]⟩ : ByteArray)).size + a0_1.size ≤ 9223372036854775807 then (some ((t110 ++ (⟨#[10]⟩ : ByteArray)) ++ a0_1, 0)) else (none)) else (none))) else (some ((⟨#[]⟩ : ByteArray), bt112.2)))) else (some ((⟨#[]⟩ : ByteArray), t111))) = some (r1, r2) := H
  have A2 := Aside0.mk A20
  clear A20
  by_cases c3 : t111 = 0
  · rw [if_pos c3] at H
    have c3b0 : (t111 == 0) = true := beq_iff_eq.mpr c3
    have c3b1 : (t111 != 0) = false := bne_eq_false_iff_eq.mpr c3
    clear c3
    replace H := Option.bind_eq_some_iff.mp H
    obtain ⟨⟨t112, t113⟩, A40, H⟩ := H
    replace H : (if t113 = 0 then (if (wrap64 ((wrap64 ((t110.size : Int) + 1)) + (a0_1.size : Int))) > 65536 then (some ((⟨#[]⟩ : ByteArray), 5)) else (if t110.size + 1 ≤ 9223372036854775807 then (if (t110 ++ (⟨#[10]⟩ : ByteArray)).size + a0_1.size ≤ 9223372036854775807 then (some ((t110 ++ (⟨#[10]⟩ : ByteArray)) ++ a0_1, 0)) else (none)) else (none))) else (some ((⟨#[]⟩ : ByteArray), t113))) = some (r1, r2) := H
    have A4 := Aside0.mk A40
    clear A40
    by_cases c5 : t113 = 0
    · rw [if_pos c5] at H
      have c5b0 : (t113 == 0) = true := beq_iff_eq.mpr c5
      have c5b1 : (t113 != 0) = false := bne_eq_false_iff_eq.mpr c5
      clear c5
      by_cases c6 : (wrap64 ((wrap64 ((t110.size : Int) + 1)) + (a0_1.size : Int))) > 65536
      · rw [if_pos c6] at H
        have c6b0 : decide (65536 < (wrap64 ((wrap64 ((t110.size : Int) + 1)) + (a0_1.size : Int)))) = true := decide_eq_true c6
        have c6b1 := c6b0
        rw [show wrap64 ((wrap64 ((t110.size : Int) + 1)) + (a0_1.size : Int)) = wrap64 ((t110.size : Int) + 1 + (a0_1.size : Int)) from by unfold wrap64; omega] at c6b1
        clear c6
        simp only [Option.some.injEq, Prod.mk.injEq] at H
        obtain ⟨rfl, rfl⟩ := H
        go_enter Tryd.func36, Tryd.ntmps36
        go_wp2_with (first | ((with_reducible refine gate_dst (N := 1) rfl ?_); refine box_event ?hg (N := 1) ?hd (cs := #[.slice A0_0 l0_0.length c0_0, .string a0_1]) (t := 69) ?hr ?_; (case hd => rfl); (case hg => rfl); (case hr => first | (go_simp; done) | (go_simp; rfl)); intro gb109 hg w7 hbox hb; have n0_ := Aside0.mk (below_step (by repeat (first | (with_reducible first | exact HB.out | apply below_alloc | apply pw_below_drewN | apply below_drew1) | exact HB.out)) hb); have n1_ := Aside0.mk (hbox); have n2_ := Aside0.mk ((by rw [hg]; exact (below_size (by repeat (first | (with_reducible first | exact HB.out | apply below_alloc | apply pw_below_drewN | apply below_drew1) | exact HB.out))) : w.heap.size ≤ gb109)); have n3_ := Aside0.mk ((by rw [hg]; exact (below_size (by repeat (first | (with_reducible first | exact HB.out | apply below_alloc | apply pw_below_drewN | apply below_drew1) | exact HB.out))) : w.heap.size ≤ gb109)); clear HB; have HB := n0_; have BK109 := n1_; have GW109 := n2_; have GE109 := n3_; clear n0_ n1_ n2_ n3_; clear hb hbox hg; have hcz8_0 : w7.cell? ⟨gb109, 0, none⟩ = some (.slice A0_0 l0_0.length c0_0) := (blk_cell BK109.out 0).trans rfl; have hcz8_1 : w7.cell? ⟨gb109, 1, none⟩ = some (.string a0_1) := (blk_cell BK109.out 1).trans rfl; have hfz8_0 := blk_frozen BK109.out 0; have hfz8_1 := blk_frozen BK109.out 1) | ((with_reducible refine gate_callee (f := 66) rfl ?_); refine goesL_ (some 11) rfl rfl Tryd.func66 (by kernel_rfl) rfl #[.slice A0_0 l0_0.length c0_0] rfl (by (try simp only [List.map_toArray, List.map_cons, List.map_nil]); first | done | rfl | (simp only [List.length_drop, List.length_take]; rfl)) ?_; (with_reducible refine (GV.Print.calls k _ _ l0_0 t110 t111 _ ?side1 ?side2 A2.out).mono ?_); (case side1 => repeat (first | exact (Kd.C_below HR0_0.out HB.out) | (with_reducible refine Kd.C_alloc ?_ _) | (with_reducible refine Kd.C_drewN ?_ _) | (with_reducible refine Kd.C_drew ?_))); (case side2 => exact HC0_0.out); rintro e w9 ⟨rfl, hb⟩; refine ⟨_, rfl, ?_⟩; have n0_ := Aside0.mk (blk_below (g := gb109) (o := .cells #[.slice A0_0 l0_0.length c0_0, .string a0_1] 69 (0, 0)) (by (with_reducible repeat (first | refine blk_drewN ?_ _ | refine blk_drew ?_ | refine blk_alloc ?_ _)); exact BK109.out) hb); have n1_ := Aside0.mk (below_step (by repeat (first | (with_reducible first | exact HB.out | apply below_alloc | apply pw_below_drewN | apply below_drew1 | refine below_set ?_ GE109.out) | exact HB.out)) hb); clear BK109; clear HB; have BK109 := n0_; have HB := n1_; clear n0_ n1_; (try clear hb); (try clear hb2); (try clear hk); (try clear hi); have hcz10_0 : w9.cell? ⟨gb109, 0, none⟩ = some (.slice A0_0 l0_0.length c0_0) := (blk_cell BK109.out 0).trans rfl; have hcz10_1 : w9.cell? ⟨gb109, 1, none⟩ = some (.string a0_1) := (blk_cell BK109.out 1).trans rfl; have hfz10_0 := blk_frozen BK109.out 0; have hfz10_1 := blk_frozen BK109.out 1) | ((with_reducible refine gate_callee (f := 67) rfl ?_); refine goesL_ (some 20) rfl rfl Tryd.func67 (by kernel_rfl) rfl #[.string a0_1] rfl (by (try simp only [List.map_toArray, List.map_cons, List.map_nil]); first | done | rfl | (simp only [List.length_drop, List.length_take]; rfl)) ?_; (with_reducible refine (article_CheckBody.calls k a0_1 t112 t113 _ A4.out).mono ?_); rintro e w11 ⟨rfl, hb⟩; refine ⟨_, rfl, ?_⟩; have n0_ := Aside0.mk (blk_below (g := gb109) (o := .cells #[.slice A0_0 l0_0.length c0_0, .string a0_1] 69 (0, 0)) (by (with_reducible repeat (first | refine blk_drewN ?_ _ | refine blk_drew ?_ | refine blk_alloc ?_ _)); exact BK109.out) hb); have n1_ := Aside0.mk (below_step (by repeat (first | (with_reducible first | exact HB.out | apply below_alloc | apply pw_below_drewN | apply below_drew1 | refine below_set ?_ GE109.out) | exact HB.out)) hb); clear BK109; clear HB; have BK109 := n0_; have HB := n1_; clear n0_ n1_; (try clear hb); (try clear hb2); (try clear hk); (try clear hi); have hcz12_0 : w11.cell? ⟨gb109, 0, none⟩ = some (.slice A0_0 l0_0.length c0_0) := (blk_cell BK109.out 0).trans rfl; have hcz12_1 : w11.cell? ⟨gb109, 1, none⟩ = some (.string a0_1) := (blk_cell BK109.out 1).trans rfl; have hfz12_0 := blk_frozen BK109.out 0; have hfz12_1 := blk_frozen BK109.out 1))
        go_ret2
        exact ⟨by first | rfl | (simp [errW_none, errW_some] <;> rfl) | (simp [*, errW_none, errW_some] <;> rfl), by repeat (first | (with_reducible first | exact HB.out | apply below_alloc | apply pw_below_drewN | apply below_drew1 | refine below_set ?_ GE109.out) | exact HB.out)⟩
      · rw [if_neg c6] at H
        have c6b0 : decide (65536 < (wrap64 ((wrap64 ((t110.size : Int) + 1)) + (a0_1.size : Int)))) = false := decide_eq_false c6
        have c6b1 := c6b0
        rw [show wrap64 ((wrap64 ((t110.size : Int) + 1)) + (a0_1.size : Int)) = wrap64 ((t110.size : Int) + 1 + (a0_1.size : Int)) from by unfold wrap64; omega] at c6b1
        clear c6
        by_cases c13 : t110.size + 1 ≤ 9223372036854775807
        · rw [if_pos c13] at H
          have c13b0 := eq_true c13
          have c13b1 : decide (t110.size + 1 ≤ 9223372036854775807) = true := decide_eq_true c13
          try have c13b2 : (9223372036854775807 < t110.size + 1) = False := eq_false (Nat.not_lt.2 c13)
          by_cases c14 : (t110 ++ (⟨#[10]⟩ : ByteArray)).size + a0_1.size ≤ 9223372036854775807
          · rw [if_pos c14] at H
            have c14b0 := eq_true c14
            have c14b1 : decide ((t110 ++ (⟨#[10]⟩ : ByteArray)).size + a0_1.size ≤ 9223372036854775807) = true := decide_eq_true c14
            try have c14b2 : (9223372036854775807 < (t110 ++ (⟨#[10]⟩ : ByteArray)).size + a0_1.size) = False := eq_false (Nat.not_lt.2 c14)
            simp only [Option.some.injEq, Prod.mk.injEq] at H
            obtain ⟨rfl, rfl⟩ := H
            go_enter Tryd.func36, Tryd.ntmps36
            go_wp2_with (first | ((with_reducible refine gate_dst (N := 1) rfl ?_); refine box_event ?hg (N := 1) ?hd (cs := #[.slice A0_0 l0_0.length c0_0, .string a0_1]) (t := 69) ?hr ?_; (case hd => rfl); (case hg => rfl); (case hr => first | (go_simp; done) | (go_simp; rfl)); intro gb109 hg w15 hbox hb; have n0_ := Aside0.mk (below_step (by repeat (first | (with_reducible first | exact HB.out | apply below_alloc | apply pw_below_drewN | apply below_drew1) | exact HB.out)) hb); have n1_ := Aside0.mk (hbox); have n2_ := Aside0.mk ((by rw [hg]; exact (below_size (by repeat (first | (with_reducible first | exact HB.out | apply below_alloc | apply pw_below_drewN | apply below_drew1) | exact HB.out))) : w.heap.size ≤ gb109)); have n3_ := Aside0.mk ((by rw [hg]; exact (below_size (by repeat (first | (with_reducible first | exact HB.out | apply below_alloc | apply pw_below_drewN | apply below_drew1) | exact HB.out))) : w.heap.size ≤ gb109)); clear HB; have HB := n0_; have BK109 := n1_; have GW109 := n2_; have GE109 := n3_; clear n0_ n1_ n2_ n3_; clear hb hbox hg; have hcz16_0 : w15.cell? ⟨gb109, 0, none⟩ = some (.slice A0_0 l0_0.length c0_0) := (blk_cell BK109.out 0).trans rfl; have hcz16_1 : w15.cell? ⟨gb109, 1, none⟩ = some (.string a0_1) := (blk_cell BK109.out 1).trans rfl; have hfz16_0 := blk_frozen BK109.out 0; have hfz16_1 := blk_frozen BK109.out 1) | ((with_reducible refine gate_callee (f := 66) rfl ?_); refine goesL_ (some 11) rfl rfl Tryd.func66 (by kernel_rfl) rfl #[.slice A0_0 l0_0.length c0_0] rfl (by (try simp only [List.map_toArray, List.map_cons, List.map_nil]); first | done | rfl | (simp only [List.length_drop, List.length_take]; rfl)) ?_; (with_reducible refine (GV.Print.calls k _ _ l0_0 t110 t111 _ ?side1 ?side2 A2.out).mono ?_); (case side1 => repeat (first | exact (Kd.C_below HR0_0.out HB.out) | (with_reducible refine Kd.C_alloc ?_ _) | (with_reducible refine Kd.C_drewN ?_ _) | (with_reducible refine Kd.C_drew ?_))); (case side2 => exact HC0_0.out); rintro e w17 ⟨rfl, hb⟩; refine ⟨_, rfl, ?_⟩; have n0_ := Aside0.mk (blk_below (g := gb109) (o := .cells #[.slice A0_0 l0_0.length c0_0, .string a0_1] 69 (0, 0)) (by (with_reducible repeat (first | refine blk_drewN ?_ _ | refine blk_drew ?_ | refine blk_alloc ?_ _)); exact BK109.out) hb); have n1_ := Aside0.mk (below_step (by repeat (first | (with_reducible first | exact HB.out | apply below_alloc | apply pw_below_drewN | apply below_drew1 | refine below_set ?_ GE109.out) | exact HB.out)) hb); clear BK109; clear HB; have BK109 := n0_; have HB := n1_; clear n0_ n1_; (try clear hb); (try clear hb2); (try clear hk); (try clear hi); have hcz18_0 : w17.cell? ⟨gb109, 0, none⟩ = some (.slice A0_0 l0_0.length c0_0) := (blk_cell BK109.out 0).trans rfl; have hcz18_1 : w17.cell? ⟨gb109, 1, none⟩ = some (.string a0_1) := (blk_cell BK109.out 1).trans rfl; have hfz18_0 := blk_frozen BK109.out 0; have hfz18_1 := blk_frozen BK109.out 1) | ((with_reducible refine gate_callee (f := 67) rfl ?_); refine goesL_ (some 20) rfl rfl Tryd.func67 (by kernel_rfl) rfl #[.string a0_1] rfl (by (try simp only [List.map_toArray, List.map_cons, List.map_nil]); first | done | rfl | (simp only [List.length_drop, List.length_take]; rfl)) ?_; (with_reducible refine (article_CheckBody.calls k a0_1 t112 t113 _ A4.out).mono ?_); rintro e w19 ⟨rfl, hb⟩; refine ⟨_, rfl, ?_⟩; have n0_ := Aside0.mk (blk_below (g := gb109) (o := .cells #[.slice A0_0 l0_0.length c0_0, .string a0_1] 69 (0, 0)) (by (with_reducible repeat (first | refine blk_drewN ?_ _ | refine blk_drew ?_ | refine blk_alloc ?_ _)); exact BK109.out) hb); have n1_ := Aside0.mk (below_step (by repeat (first | (with_reducible first | exact HB.out | apply below_alloc | apply pw_below_drewN | apply below_drew1 | refine below_set ?_ GE109.out) | exact HB.out)) hb); clear BK109; clear HB; have BK109 := n0_; have HB := n1_; clear n0_ n1_; (try clear hb); (try clear hb2); (try clear hk); (try clear hi); have hcz20_0 : w19.cell? ⟨gb109, 0, none⟩ = some (.slice A0_0 l0_0.length c0_0) := (blk_cell BK109.out 0).trans rfl; have hcz20_1 : w19.cell? ⟨gb109, 1, none⟩ = some (.string a0_1) := (blk_cell BK109.out 1).trans rfl; have hfz20_0 := blk_frozen BK109.out 0; have hfz20_1 := blk_frozen BK109.out 1))
            go_ret2
            exact ⟨by first | rfl | (simp [errW_none, errW_some] <;> rfl) | (simp [*, errW_none, errW_some] <;> rfl), by repeat (first | (with_reducible first | exact HB.out | apply below_alloc | apply pw_below_drewN | apply below_drew1 | refine below_set ?_ GE109.out) | exact HB.out)⟩
          · rw [if_neg c14] at H
            exact absurd H (by simp)
        · rw [if_neg c13] at H
          exact absurd H (by simp)
    · rw [if_neg c5] at H
      have c5b0 : (t113 == 0) = false := beq_eq_false_iff_ne.mpr c5
      have c5b1 : (t113 != 0) = true := bne_iff_ne.mpr c5
      simp only [Option.some.injEq, Prod.mk.injEq] at H
      obtain ⟨rfl, rfl⟩ := H
      go_enter Tryd.func36, Tryd.ntmps36
      go_wp2_with (first | ((with_reducible refine gate_dst (N := 1) rfl ?_); refine box_event ?hg (N := 1) ?hd (cs := #[.slice A0_0 l0_0.length c0_0, .string a0_1]) (t := 69) ?hr ?_; (case hd => rfl); (case hg => rfl); (case hr => first | (go_simp; done) | (go_simp; rfl)); intro gb109 hg w21 hbox hb; have n0_ := Aside0.mk (below_step (by repeat (first | (with_reducible first | exact HB.out | apply below_alloc | apply pw_below_drewN | apply below_drew1) | exact HB.out)) hb); have n1_ := Aside0.mk (hbox); have n2_ := Aside0.mk ((by rw [hg]; exact (below_size (by repeat (first | (with_reducible first | exact HB.out | apply below_alloc | apply pw_below_drewN | apply below_drew1) | exact HB.out))) : w.heap.size ≤ gb109)); have n3_ := Aside0.mk ((by rw [hg]; exact (below_size (by repeat (first | (with_reducible first | exact HB.out | apply below_alloc | apply pw_below_drewN | apply below_drew1) | exact HB.out))) : w.heap.size ≤ gb109)); clear HB; have HB := n0_; have BK109 := n1_; have GW109 := n2_; have GE109 := n3_; clear n0_ n1_ n2_ n3_; clear hb hbox hg; have hcz22_0 : w21.cell? ⟨gb109, 0, none⟩ = some (.slice A0_0 l0_0.length c0_0) := (blk_cell BK109.out 0).trans rfl; have hcz22_1 : w21.cell? ⟨gb109, 1, none⟩ = some (.string a0_1) := (blk_cell BK109.out 1).trans rfl; have hfz22_0 := blk_frozen BK109.out 0; have hfz22_1 := blk_frozen BK109.out 1) | ((with_reducible refine gate_callee (f := 66) rfl ?_); refine goesL_ (some 11) rfl rfl Tryd.func66 (by kernel_rfl) rfl #[.slice A0_0 l0_0.length c0_0] rfl (by (try simp only [List.map_toArray, List.map_cons, List.map_nil]); first | done | rfl | (simp only [List.length_drop, List.length_take]; rfl)) ?_; (with_reducible refine (GV.Print.calls k _ _ l0_0 t110 t111 _ ?side1 ?side2 A2.out).mono ?_); (case side1 => repeat (first | exact (Kd.C_below HR0_0.out HB.out) | (with_reducible refine Kd.C_alloc ?_ _) | (with_reducible refine Kd.C_drewN ?_ _) | (with_reducible refine Kd.C_drew ?_))); (case side2 => exact HC0_0.out); rintro e w23 ⟨rfl, hb⟩; refine ⟨_, rfl, ?_⟩; have n0_ := Aside0.mk (blk_below (g := gb109) (o := .cells #[.slice A0_0 l0_0.length c0_0, .string a0_1] 69 (0, 0)) (by (with_reducible repeat (first | refine blk_drewN ?_ _ | refine blk_drew ?_ | refine blk_alloc ?_ _)); exact BK109.out) hb); have n1_ := Aside0.mk (below_step (by repeat (first | (with_reducible first | exact HB.out | apply below_alloc | apply pw_below_drewN | apply below_drew1 | refine below_set ?_ GE109.out) | exact HB.out)) hb); clear BK109; clear HB; have BK109 := n0_; have HB := n1_; clear n0_ n1_; (try clear hb); (try clear hb2); (try clear hk); (try clear hi); have hcz24_0 : w23.cell? ⟨gb109, 0, none⟩ = some (.slice A0_0 l0_0.length c0_0) := (blk_cell BK109.out 0).trans rfl; have hcz24_1 : w23.cell? ⟨gb109, 1, none⟩ = some (.string a0_1) := (blk_cell BK109.out 1).trans rfl; have hfz24_0 := blk_frozen BK109.out 0; have hfz24_1 := blk_frozen BK109.out 1) | ((with_reducible refine gate_callee (f := 67) rfl ?_); refine goesL_ (some 20) rfl rfl Tryd.func67 (by kernel_rfl) rfl #[.string a0_1] rfl (by (try simp only [List.map_toArray, List.map_cons, List.map_nil]); first | done | rfl | (simp only [List.length_drop, List.length_take]; rfl)) ?_; (with_reducible refine (article_CheckBody.calls k a0_1 t112 t113 _ A4.out).mono ?_); rintro e w25 ⟨rfl, hb⟩; refine ⟨_, rfl, ?_⟩; have n0_ := Aside0.mk (blk_below (g := gb109) (o := .cells #[.slice A0_0 l0_0.length c0_0, .string a0_1] 69 (0, 0)) (by (with_reducible repeat (first | refine blk_drewN ?_ _ | refine blk_drew ?_ | refine blk_alloc ?_ _)); exact BK109.out) hb); have n1_ := Aside0.mk (below_step (by repeat (first | (with_reducible first | exact HB.out | apply below_alloc | apply pw_below_drewN | apply below_drew1 | refine below_set ?_ GE109.out) | exact HB.out)) hb); clear BK109; clear HB; have BK109 := n0_; have HB := n1_; clear n0_ n1_; (try clear hb); (try clear hb2); (try clear hk); (try clear hi)))
      go_ret2
      exact ⟨by first | rfl | (simp [errW_none, errW_some] <;> rfl) | (simp [*, errW_none, errW_some] <;> rfl), by repeat (first | (with_reducible first | exact HB.out | apply below_alloc | apply pw_below_drewN | apply below_drew1 | refine below_set ?_ GE109.out) | exact HB.out)⟩
  · rw [if_neg c3] at H
    have c3b0 : (t111 == 0) = false := beq_eq_false_iff_ne.mpr c3
    have c3b1 : (t111 != 0) = true := bne_iff_ne.mpr c3
    simp only [Option.some.injEq, Prod.mk.injEq] at H
    obtain ⟨rfl, rfl⟩ := H
    go_enter Tryd.func36, Tryd.ntmps36
    go_wp2_with (first | ((with_reducible refine gate_dst (N := 1) rfl ?_); refine box_event ?hg (N := 1) ?hd (cs := #[.slice A0_0 l0_0.length c0_0, .string a0_1]) (t := 69) ?hr ?_; (case hd => rfl); (case hg => rfl); (case hr => first | (go_simp; done) | (go_simp; rfl)); intro gb109 hg w26 hbox hb; have n0_ := Aside0.mk (below_step (by repeat (first | (with_reducible first | exact HB.out | apply below_alloc | apply pw_below_drewN | apply below_drew1) | exact HB.out)) hb); have n1_ := Aside0.mk (hbox); have n2_ := Aside0.mk ((by rw [hg]; exact (below_size (by repeat (first | (with_reducible first | exact HB.out | apply below_alloc | apply pw_below_drewN | apply below_drew1) | exact HB.out))) : w.heap.size ≤ gb109)); have n3_ := Aside0.mk ((by rw [hg]; exact (below_size (by repeat (first | (with_reducible first | exact HB.out | apply below_alloc | apply pw_below_drewN | apply below_drew1) | exact HB.out))) : w.heap.size ≤ gb109)); clear HB; have HB := n0_; have BK109 := n1_; have GW109 := n2_; have GE109 := n3_; clear n0_ n1_ n2_ n3_; clear hb hbox hg; have hcz27_0 : w26.cell? ⟨gb109, 0, none⟩ = some (.slice A0_0 l0_0.length c0_0) := (blk_cell BK109.out 0).trans rfl; have hcz27_1 : w26.cell? ⟨gb109, 1, none⟩ = some (.string a0_1) := (blk_cell BK109.out 1).trans rfl; have hfz27_0 := blk_frozen BK109.out 0; have hfz27_1 := blk_frozen BK109.out 1) | ((with_reducible refine gate_callee (f := 66) rfl ?_); refine goesL_ (some 11) rfl rfl Tryd.func66 (by kernel_rfl) rfl #[.slice A0_0 l0_0.length c0_0] rfl (by (try simp only [List.map_toArray, List.map_cons, List.map_nil]); first | done | rfl | (simp only [List.length_drop, List.length_take]; rfl)) ?_; (with_reducible refine (GV.Print.calls k _ _ l0_0 t110 t111 _ ?side1 ?side2 A2.out).mono ?_); (case side1 => repeat (first | exact (Kd.C_below HR0_0.out HB.out) | (with_reducible refine Kd.C_alloc ?_ _) | (with_reducible refine Kd.C_drewN ?_ _) | (with_reducible refine Kd.C_drew ?_))); (case side2 => exact HC0_0.out); rintro e w28 ⟨rfl, hb⟩; refine ⟨_, rfl, ?_⟩; have n0_ := Aside0.mk (blk_below (g := gb109) (o := .cells #[.slice A0_0 l0_0.length c0_0, .string a0_1] 69 (0, 0)) (by (with_reducible repeat (first | refine blk_drewN ?_ _ | refine blk_drew ?_ | refine blk_alloc ?_ _)); exact BK109.out) hb); have n1_ := Aside0.mk (below_step (by repeat (first | (with_reducible first | exact HB.out | apply below_alloc | apply pw_below_drewN | apply below_drew1 | refine below_set ?_ GE109.out) | exact HB.out)) hb); clear BK109; clear HB; have BK109 := n0_; have HB := n1_; clear n0_ n1_; (try clear hb); (try clear hb2); (try clear hk); (try clear hi)))
    go_ret2
    exact ⟨by first | rfl | (simp [errW_none, errW_some] <;> rfl) | (simp [*, errW_none, errW_some] <;> rfl), by repeat (first | (with_reducible first | exact HB.out | apply below_alloc | apply pw_below_drewN | apply below_drew1 | refine below_set ?_ GE109.out) | exact HB.out)⟩

-- NOT PRINTED: function 30 (strings_Builder_String)

-- NOT PRINTED: function 70 (article_Lines)

-- NOT PRINTED: function 71 (strings_Builder_Len)

-- NOT PRINTED: function 37 (article_Quote)

-- NOT PRINTED: function 17 (bulletinlaw15_known)

-- NOT PRINTED: function 5 (bulletinlaw15_ArticleLevels)

end Go.Proofs.YtfeciafdioepiaaDoor.PC
set_option linter.unusedVariables false
set_option linter.unusedSimpArgs false
namespace Go.Proofs.YtfeciafdioepiaaDoor
open Go.RowKit Go.Shelf Go.Proofs Go.Proofs.YtfeciafdioepiaaDoorW.PrintWords Go.Proofs.YtfeciafdioepiaaDoorW.PrintMore Go.Proofs.YtfeciafdioepiaaDoor.PA
attribute [local go_sem] Oper.semAt_some

/-- The parser of an article lies at a block. -/
def Art (g : Nat) (text head : ByteArray) (fd : Bool) (v : Value) (body : ByteArray) (w : World) : Prop :=
  w.heap[g]? = some (.cells #[.string text, .string head, .bool fd, v, .string body] 93 (0, 0))
def failV (at_ code : Int) : Value := .agg #[.int .i64 at_, .int .i64 code]

set_option maxHeartbeats 4000000 in
theorem length_any (g : Nat) (text head : ByteArray) (fd : Bool) (v : Value) (body : ByteArray) (w : World) (h : Art g text head fd v body w) :
    Calls Tryd.prog 62 #[.pointer (some ⟨g, 0, none⟩)] w fun e w' => e = .returned (if 65536 < text.size then failV 65536 5 else failV 0 0) ∧ Below w.heap.size w w' := by
  have hc0 : w.cell? ⟨g, 0, none⟩ = some (.string text) := (blk_cell h 0).trans rfl
  have hg : g < w.heap.size := (Array.getElem?_eq_some_iff.1 h).1
  have HB := Aside0.mk h
  clear h
  by_cases hz : 65536 < text.size
  · rw [if_pos hz]
    have hz1 : decide (65536 < (text.size : Int)) = true := decide_eq_true (by omega)
    go_enter Tryd.func62, Tryd.ntmps62
    go_wp2
    refine bodyPost_ret (results_cell_row rfl _ _ w.heap.size 97 #[.int .i64 65536, .int .i64 5] (0, 0) _ rfl (heap_alloc_new _ _) Tryd.underlying97 rfl (by kernel_rfl)) rfl ?_
    exact ⟨rfl, (Below.refl _ _).alloc (Nat.le_refl _) _⟩
  · rw [if_neg hz]
    have hz1 : decide (65536 < (text.size : Int)) = false := decide_eq_false (by omega)
    go_enter Tryd.func62, Tryd.ntmps62
    go_wp2
    refine bodyPost_ret (results_cell_row rfl _ _ w.heap.size 97 #[.int .i64 0, .int .i64 0] (0, 0) _ rfl (heap_alloc_new _ _) Tryd.underlying97 rfl (by kernel_rfl)) rfl ?_
    exact ⟨rfl, (Below.refl _ _).alloc (Nat.le_refl _) _⟩

set_option maxHeartbeats 4000000 in
theorem separation_any (g : Nat) (text head : ByteArray) (fd : Bool) (v : Value) (body : ByteArray) (w : World) (h : Art g text head fd v body w) :
    Calls Tryd.prog 64 #[.pointer (some ⟨g, 0, none⟩)] w fun e w' => e = .returned (if fd = true then failV 0 0 else failV text.size 4) ∧ Below w.heap.size w w' := by
  have hc0 : w.cell? ⟨g, 0, none⟩ = some (.string text) := (blk_cell h 0).trans rfl
  have hc2 : w.cell? ⟨g, 2, none⟩ = some (.bool fd) := (blk_cell h 2).trans rfl
  have hg : g < w.heap.size := (Array.getElem?_eq_some_iff.1 h).1
  have HB := Aside0.mk h
  clear h
  cases fd
  · go_enter Tryd.func64, Tryd.ntmps64
    go_wp2
    refine bodyPost_ret (results_cell_row rfl _ _ w.heap.size 97 #[.int .i64 text.size, .int .i64 4] (0, 0) _ rfl (heap_alloc_new _ _) Tryd.underlying97 rfl (by kernel_rfl)) rfl ?_
    exact ⟨rfl, (Below.refl _ _).alloc (Nat.le_refl _) _⟩
  · go_enter Tryd.func64, Tryd.ntmps64
    go_wp2
    refine bodyPost_ret (results_cell_row rfl _ _ w.heap.size 97 #[.int .i64 0, .int .i64 0] (0, 0) _ rfl (heap_alloc_new _ _) Tryd.underlying97 rfl (by kernel_rfl)) rfl ?_
    exact ⟨rfl, (Below.refl _ _).alloc (Nat.le_refl _) _⟩

end Go.Proofs.YtfeciafdioepiaaDoor
set_option linter.unusedVariables false
set_option linter.unusedSimpArgs false
namespace Go.Proofs.YtfeciafdioepiaaDoor
open Go.RowKit Go.Shelf Go.Proofs Go.Proofs.YtfeciafdioepiaaDoorW.PrintWords Go.Proofs.YtfeciafdioepiaaDoorW.PrintMore Go.Proofs.YtfeciafdioepiaaDoor.PA
attribute [local go_sem] Oper.semAt_some

/-- The header of a text, and whether it ends with an empty line. -/
def headA (text : ByteArray) : ByteArray × Bool :=
  if Lib.hasPrefix text.data.toList [10] = true then (⟨#[]⟩, true)
  else if 0 ≤ Lib.index text.data.toList [10, 10] then (text.extract 0 (Lib.index text.data.toList [10, 10] + 1).toNat, true)
  else (text, false)
theorem index2_lt (l : List UInt8) (h : 0 ≤ Lib.index l [10, 10]) : Lib.index l [10, 10] + 2 ≤ l.length := by
  rcases Lib.index_spec l [10, 10] with ⟨h1, _⟩ | ⟨i, h1, h2, h3, _⟩
  · omega
  · have h4 : [10, 10] <+: l.drop i := List.isPrefixOf_iff_prefix.1 h3
    have := h4.length_le
    simp at this
    omega

/-- What the header's step leaves. -/
def HeadPost (B g : Nat) (text hd : ByteArray) (fd : Bool) (body : ByteArray) (w : World) (e : Ending) (w' : World) : Prop :=
  ∃ v', e = .returned (failV (parseP hd.data.toList).2.1 (parseP hd.data.toList).2.2) ∧ Art g text hd fd v' body w' ∧ Kd.R k74 74 w' B (fun _ => True) v' ((parseP hd.data.toList).1.map toS) ∧ Below B w w' ∧ KeepBut w w' g none

theorem keep_below {w W w' : World} {g : Nat} (h : KeepBut w W g none) (hb : Below W.heap.size W w') : KeepBut w w' g none :=
  ⟨Nat.le_trans h.1 hb.size, fun i hi h1 h2 => (hb.block i (Nat.lt_of_lt_of_le hi h.1)).trans (h.2 i hi h1 h2)⟩
theorem keep_alloc {w W : World} {g : Nat} (h : KeepBut w W g none) (o : Obj) : KeepBut w (W.alloc o) g none :=
  ⟨Nat.le_trans h.1 (by simp), fun i hi h1 h2 => (Below.heap_alloc W o i (Nat.lt_of_lt_of_le hi h.1)).trans (h.2 i hi h1 h2)⟩
theorem keep_far {w W : World} {g F : Nat} (h : KeepBut w W g none) (hF : w.heap.size ≤ F) (j : Nat) (v : Value) : KeepBut w (W.setCell ⟨F, j, none⟩ v) g none :=
  ⟨by simpa using h.1, fun i hi h1 h2 => (Below.heap_setCell W ⟨F, j, none⟩ v i (by simp; omega)).trans (h.2 i hi h1 h2)⟩
/-- What field's Parse answers, by letters. -/
def Parsed (hd : ByteArray) (xs : List S74) (p q : Int) : Prop := (parseP hd.data.toList).1.map toS = xs ∧ (parseP hd.data.toList).2.1 = p ∧ (parseP hd.data.toList).2.2 = q
theorem parse_in (B g F : Nat) (text hd : ByteArray) (fd : Bool) (v : Value) (body : ByteArray) (w W : World) (h : Art g text hd fd v body W)
    (hF : W.heap[F]? = some (.cells #[.int .i64 0, .int .i64 0] 97 (0, 0))) (hW : Below B w W) (hK : KeepBut w W g none) (hBW : B ≤ W.heap.size) (h0 : 0 < B) (hgm : Gm w) (ht : hd.size ≤ 65536) :
    Calls Tryd.prog 90 #[.string hd] W fun e w' => ∃ v', e = .returned (.tuple #[v', .int .i64 (parseP hd.data.toList).2.1, .int .i64 (parseP hd.data.toList).2.2]) ∧
      Art g text hd fd v body w' ∧ w'.heap[F]? = some (.cells #[.int .i64 0, .int .i64 0] 97 (0, 0)) ∧ Kd.R k74 74 w' B (fun _ => True) v' ((parseP hd.data.toList).1.map toS) ∧ Below B w w' ∧ KeepBut w w' g none := by
  refine (parse_any hd W (hgm.below hW h0) (by omega)).mono ?_
  rintro e w' ⟨v', he, hr, hb⟩
  exact ⟨v', he, blk_below h hb, blk_below hF hb, Kd.R_lower hr hBW, hW.trans (hb.mono hBW), keep_below hK hb⟩

theorem parse_in2 (B g : Nat) (text hd : ByteArray) (fd : Bool) (v : Value) (body : ByteArray) (w W : World) (h : Art g text hd fd v body W)
    (hW : Below B w W) (hK : KeepBut w W g none) (hz : W.heap.size = w.heap.size) (hBW : B ≤ w.heap.size) (h0 : 0 < B) (hgm : Gm w) (ht : hd.size ≤ 65536) (xs : List S74) (p q : Int) (hpe : Parsed hd xs p q) :
    Calls Tryd.prog 90 #[.string hd] (W.alloc (.cells #[.int .i64 0, .int .i64 0] 97)) fun e w' => ∃ v', e = .returned (.tuple #[v', .int .i64 p, .int .i64 q]) ∧
      Art g text hd fd v body w' ∧ w'.heap[w.heap.size]? = some (.cells #[.int .i64 0, .int .i64 0] 97 (0, 0)) ∧ Kd.R k74 74 w' B (fun _ => True) v' xs ∧ Below B w w' ∧ KeepBut w w' g none := by
  obtain ⟨rfl, rfl, rfl⟩ := hpe
  exact parse_in B g w.heap.size text hd fd v body w _ (blk_alloc h _) (by rw [← hz]; exact blk_new W _) (hW.alloc (by omega) _) (keep_alloc hK _) (by simp; omega) h0 hgm ht

theorem head_post {B g : Nat} {text hd : ByteArray} {fd : Bool} {v body v5} {w w5 : World} {xs : List S74} {p q : Int} (hpe : Parsed hd xs p q)
    (ha : Art g text hd fd v body w5) (hf : w5.heap[w.heap.size]? = some (.cells #[.int .i64 0, .int .i64 0] 97 (0, 0)))
    (hr : Kd.R k74 74 w5 B (fun _ => True) v5 xs) (hb : Below B w w5) (hk : KeepBut w w5 g none) (hB : B ≤ g) (hg : g < w.heap.size) (hBw : B ≤ w.heap.size) :
    HeadPost B g text hd fd body w (.returned (.agg #[.int .i64 p, .int .i64 q]))
      (((w5.setCell ⟨g, 3, none⟩ v5).setCell ⟨w.heap.size, 0, none⟩ (.int .i64 p)).setCell ⟨w.heap.size, 1, none⟩ (.int .i64 q)) := by
  obtain ⟨rfl, rfl, rfl⟩ := hpe
  have h1 := blk_far hf (p := ⟨g, 3, none⟩) (by simp; omega) v5
  have h2 := blk_set h1 0 (.int .i64 (parseP hd.data.toList).2.1)
  have r1 := Kd.R_set hr ha (by decide) 3 v5
  have r2 := Kd.R_set r1 h1 (by decide) 0 (.int .i64 (parseP hd.data.toList).2.1)
  have r3 := Kd.R_set r2 h2 (by decide) 1 (.int .i64 (parseP hd.data.toList).2.2)
  refine ⟨v5, rfl, ?_, r3, ?_, keep_far (keep_far (hk.set_ 3 _) (Nat.le_refl _) 0 _) (Nat.le_refl _) 1 _⟩
  · exact blk_far (blk_far (blk_put ha 3 v5 rfl) (p := ⟨w.heap.size, 0, none⟩) (by simp; omega) _) (p := ⟨w.heap.size, 1, none⟩) (by simp; omega) _
  · exact ((hb.setCell (p := ⟨g, 3, none⟩) hB _).setCell (p := ⟨w.heap.size, 0, none⟩) hBw _).setCell (p := ⟨w.heap.size, 1, none⟩) hBw _

set_option maxHeartbeats 4000000 in
theorem header1 (B g : Nat) (text body : ByteArray) (v : Value) (w : World) (hB : B ≤ g) (h0 : 0 < B) (hgm : Gm w) (ht : text.size ≤ 65536) (h : Art g text ⟨#[]⟩ false v body w)
    (hp : Lib.hasPrefix text.data.toList [10] = true) :
    Calls Tryd.prog 63 #[.pointer (some ⟨g, 0, none⟩)] w (HeadPost B g text ⟨#[]⟩ true body w) := by
  have hc0 : w.cell? ⟨g, 0, none⟩ = some (.string text) := (blk_cell h 0).trans rfl
  have hc1 : w.cell? ⟨g, 1, none⟩ = some (.string ⟨#[]⟩) := (blk_cell h 1).trans rfl
  have hc2 : w.cell? ⟨g, 2, none⟩ = some (.bool false) := (blk_cell h 2).trans rfl
  have hf1 := blk_frozen h 1
  have hf2 := blk_frozen h 2
  have hf3 := blk_frozen h 3
  have hg : g < w.heap.size := (Array.getElem?_eq_some_iff.1 h).1
  have hW0 := ((Below.refl B w).setCell (p := ⟨g, 1, none⟩) hB (.string text)).setCell (p := ⟨g, 2, none⟩) hB (.bool true)
  have hW : Below B w ((((w.setCell ⟨g, 1, none⟩ (.string text)).setCell ⟨g, 2, none⟩ (.bool true)).alloc (.cells #[.int .i64 0, .int .i64 0] 97))) :=
    hW0.alloc (by simp; omega) _
  have hA := (blk_set (blk_set (blk_set h 1 (.string text)) 2 (.bool true)) 1 (.string ⟨#[]⟩)).trans rfl
  obtain ⟨xs, p, q, hpe⟩ : ∃ xs p q, Parsed ⟨#[]⟩ xs p q := ⟨_, _, _, rfl, rfl, rfl⟩
  have hP := parse_in2 B g text ⟨#[]⟩ true v body w _ hA (hW0.setCell (p := ⟨g, 1, none⟩) hB (.string ⟨#[]⟩)) ((((KeepBut.refl w g none).set_ 1 _).set_ 2 _).set_ 1 _) (by simp) (by omega) h0 hgm (by decide) xs p q hpe
  have HPE := Aside0.mk hpe
  clear hpe
  have HP := Aside0.mk hP
  have Hi := Lib.hid (fun W (hW : Below B w W) => index_any text ⟨#[10, 10]⟩ W (hgm.below hW h0) (by omega))
  have HW := Aside0.mk hW
  have Hp := Lib.hid hp
  clear h hp hgm hW hW0 hA hP
  go_enter Tryd.func63, Tryd.ntmps63
  go_wp2_with (first
    | (go_at_call 58; refine (Hi.out _ HW.out).mono ?_; rintro e w' ⟨rfl, rfl⟩)
    | (go_at_call 89; refine (Tryd.strings_HasPrefix text ⟨#[10]⟩ _).mono ?_; rintro e w' ⟨he, rfl⟩; rw [show Lib.hasPrefix text.data.toList (⟨#[10]⟩ : ByteArray).data.toList = true from Hp.out] at he; subst he)
    | (go_at_call 90; refine HP.out.mono ?_; rintro e w5 ⟨v5, rfl, ha5, hf5, hr5, hb5, hk5⟩; obtain ⟨A5, c5, e5⟩ := Kd.R_slice hr5; subst e5; have hcg3 : w5.cell? ⟨g, 3, none⟩ = some v := (blk_cell ha5 3).trans rfl; have hcf0 : w5.cell? ⟨w.heap.size, 0, none⟩ = some (.int .i64 0) := (blk_cell hf5 0).trans rfl; have hcf1 : w5.cell? ⟨w.heap.size, 1, none⟩ = some (.int .i64 0) := (blk_cell hf5 1).trans rfl; have hfz := blk_frozen ha5 3; have hfy := blk_frozen hf5 0; have hfx := blk_frozen hf5 1; have HA5 := Aside0.mk ha5; have HF5 := Aside0.mk hf5; have HR5 := Aside0.mk hr5; have HB5 := Aside0.mk hb5; have HK5 := Aside0.mk hk5; clear ha5 hf5 hr5 hb5 hk5))
  refine bodyPost_ret (results_cell_row rfl _ _ w.heap.size 97 #[_, _] (0, 0) _ rfl (blk_put (blk_put (blk_far HF5.out (p := ⟨g, 3, none⟩) (by simp; omega) _) 0 _ rfl) 1 _ rfl) Tryd.underlying97 rfl (by kernel_rfl)) rfl ?_
  exact head_post HPE.out HA5.out HF5.out HR5.out HB5.out HK5.out hB hg (by omega)

set_option maxHeartbeats 4000000 in
theorem header2 (B g : Nat) (text body : ByteArray) (v : Value) (w : World) (hB : B ≤ g) (h0 : 0 < B) (hgm : Gm w) (ht : text.size ≤ 65536) (h : Art g text ⟨#[]⟩ false v body w)
    (hp : Lib.hasPrefix text.data.toList [10] = false) (i : Int) (hix : Lib.index text.data.toList [10, 10] = i) (hi0 : 0 ≤ i) (hil : i + 1 ≤ text.size) :
    Calls Tryd.prog 63 #[.pointer (some ⟨g, 0, none⟩)] w (HeadPost B g text (text.extract 0 (i + 1).toNat) true body w) := by
  have hc0 : w.cell? ⟨g, 0, none⟩ = some (.string text) := (blk_cell h 0).trans rfl
  have hc1 : w.cell? ⟨g, 1, none⟩ = some (.string ⟨#[]⟩) := (blk_cell h 1).trans rfl
  have hc2 : w.cell? ⟨g, 2, none⟩ = some (.bool false) := (blk_cell h 2).trans rfl
  have hf1 := blk_frozen h 1
  have hf2 := blk_frozen h 2
  have hf3 := blk_frozen h 3
  have hg : g < w.heap.size := (Array.getElem?_eq_some_iff.1 h).1
  have hW0 := ((Below.refl B w).setCell (p := ⟨g, 1, none⟩) hB (.string text)).setCell (p := ⟨g, 2, none⟩) hB (.bool true)
  have hW : Below B w ((((w.setCell ⟨g, 1, none⟩ (.string text)).setCell ⟨g, 2, none⟩ (.bool true)).alloc (.cells #[.int .i64 0, .int .i64 0] 97))) :=
    hW0.alloc (by simp; omega) _
  have hA := (blk_set (blk_set (blk_set h 1 (.string text)) 2 (.bool true)) 1 (.string (text.extract 0 (i + 1).toNat))).trans rfl
  obtain ⟨xs, p, q, hpe⟩ : ∃ xs p q, Parsed (text.extract 0 (i + 1).toNat) xs p q := ⟨_, _, _, rfl, rfl, rfl⟩
  have hP := parse_in2 B g text (text.extract 0 (i + 1).toNat) true v body w _ hA (hW0.setCell (p := ⟨g, 1, none⟩) hB (.string (text.extract 0 (i + 1).toNat))) ((((KeepBut.refl w g none).set_ 1 _).set_ 2 _).set_ 1 _) (by simp) (by omega) h0 hgm (by simp; omega) xs p q hpe
  have HPE := Aside0.mk hpe
  clear hpe
  have HP := Aside0.mk hP
  have Hi := Lib.hid (fun W (hW : Below B w W) => index_any text ⟨#[10, 10]⟩ W (hgm.below hW h0) (by omega))
  have HW := Aside0.mk hW
  have Hp := Lib.hid hp
  have Hix := Lib.hid hix
  have hd0 : decide (0 ≤ i) = true := decide_eq_true hi0
  have hwr : wrap64 (i + 1) = i + 1 := (by unfold wrap64; omega)
  have hd1 : (0 ≤ i + 1) = True := eq_true (by omega)
  have hd2 : (i + 1 ≤ (text.size : Int)) = True := eq_true hil
  clear h hp hix hgm hW hW0 hA hP
  go_enter Tryd.func63, Tryd.ntmps63
  go_wp2_with (first
    | (go_at_call 58; refine (Hi.out _ HW.out).mono ?_; rintro e w' ⟨he, rfl⟩; rw [show Lib.index text.data.toList (⟨#[10, 10]⟩ : ByteArray).data.toList = i from Hix.out] at he; subst he)
    | (go_at_call 89; refine (Tryd.strings_HasPrefix text ⟨#[10]⟩ _).mono ?_; rintro e w' ⟨he, rfl⟩; rw [show Lib.hasPrefix text.data.toList (⟨#[10]⟩ : ByteArray).data.toList = false from Hp.out] at he; subst he)
    | (go_at_call 90; refine HP.out.mono ?_; rintro e w5 ⟨v5, rfl, ha5, hf5, hr5, hb5, hk5⟩; obtain ⟨A5, c5, e5⟩ := Kd.R_slice hr5; subst e5; have hcg3 : w5.cell? ⟨g, 3, none⟩ = some v := (blk_cell ha5 3).trans rfl; have hcf0 : w5.cell? ⟨w.heap.size, 0, none⟩ = some (.int .i64 0) := (blk_cell hf5 0).trans rfl; have hcf1 : w5.cell? ⟨w.heap.size, 1, none⟩ = some (.int .i64 0) := (blk_cell hf5 1).trans rfl; have hfz := blk_frozen ha5 3; have hfy := blk_frozen hf5 0; have hfx := blk_frozen hf5 1; have HA5 := Aside0.mk ha5; have HF5 := Aside0.mk hf5; have HR5 := Aside0.mk hr5; have HB5 := Aside0.mk hb5; have HK5 := Aside0.mk hk5; clear ha5 hf5 hr5 hb5 hk5))
  refine bodyPost_ret (results_cell_row rfl _ _ w.heap.size 97 #[_, _] (0, 0) _ rfl (blk_put (blk_put (blk_far HF5.out (p := ⟨g, 3, none⟩) (by simp; omega) _) 0 _ rfl) 1 _ rfl) Tryd.underlying97 rfl (by kernel_rfl)) rfl ?_
  exact head_post HPE.out HA5.out HF5.out HR5.out HB5.out HK5.out hB hg (by omega)

set_option maxHeartbeats 4000000 in
theorem header3 (B g : Nat) (text body : ByteArray) (v : Value) (w : World) (hB : B ≤ g) (h0 : 0 < B) (hgm : Gm w) (ht : text.size ≤ 65536) (h : Art g text ⟨#[]⟩ false v body w)
    (hp : Lib.hasPrefix text.data.toList [10] = false) (i : Int) (hix : Lib.index text.data.toList [10, 10] = i) (hi0 : i < 0) :
    Calls Tryd.prog 63 #[.pointer (some ⟨g, 0, none⟩)] w (HeadPost B g text text false body w) := by
  have hc0 : w.cell? ⟨g, 0, none⟩ = some (.string text) := (blk_cell h 0).trans rfl
  have hc1 : w.cell? ⟨g, 1, none⟩ = some (.string ⟨#[]⟩) := (blk_cell h 1).trans rfl
  have hc2 : w.cell? ⟨g, 2, none⟩ = some (.bool false) := (blk_cell h 2).trans rfl
  have hf1 := blk_frozen h 1
  have hf2 := blk_frozen h 2
  have hf3 := blk_frozen h 3
  have hg : g < w.heap.size := (Array.getElem?_eq_some_iff.1 h).1
  have hW0 := ((Below.refl B w).setCell (p := ⟨g, 1, none⟩) hB (.string text)).setCell (p := ⟨g, 2, none⟩) hB (.bool true)
  have hW : Below B w ((((w.setCell ⟨g, 1, none⟩ (.string text)).setCell ⟨g, 2, none⟩ (.bool true)).alloc (.cells #[.int .i64 0, .int .i64 0] 97))) :=
    hW0.alloc (by simp; omega) _
  have hA := (blk_set (blk_set (blk_set h 1 (.string text)) 2 (.bool true)) 2 (.bool false)).trans rfl
  obtain ⟨xs, p, q, hpe⟩ : ∃ xs p q, Parsed text xs p q := ⟨_, _, _, rfl, rfl, rfl⟩
  have hP := parse_in2 B g text text false v body w _ hA (hW0.setCell (p := ⟨g, 2, none⟩) hB (.bool false)) ((((KeepBut.refl w g none).set_ 1 _).set_ 2 _).set_ 2 _) (by simp) (by omega) h0 hgm ht xs p q hpe
  have HPE := Aside0.mk hpe
  clear hpe
  have HP := Aside0.mk hP
  have Hi := Lib.hid (fun W (hW : Below B w W) => index_any text ⟨#[10, 10]⟩ W (hgm.below hW h0) (by omega))
  have HW := Aside0.mk hW
  have Hp := Lib.hid hp
  have Hix := Lib.hid hix
  have hd0 : decide (0 ≤ i) = false := decide_eq_false (by omega)
  clear h hp hix hgm hW hW0 hA hP
  go_enter Tryd.func63, Tryd.ntmps63
  go_wp2_with (first
    | (go_at_call 58; refine (Hi.out _ HW.out).mono ?_; rintro e w' ⟨he, rfl⟩; rw [show Lib.index text.data.toList (⟨#[10, 10]⟩ : ByteArray).data.toList = i from Hix.out] at he; subst he)
    | (go_at_call 89; refine (Tryd.strings_HasPrefix text ⟨#[10]⟩ _).mono ?_; rintro e w' ⟨he, rfl⟩; rw [show Lib.hasPrefix text.data.toList (⟨#[10]⟩ : ByteArray).data.toList = false from Hp.out] at he; subst he)
    | (go_at_call 90; refine HP.out.mono ?_; rintro e w5 ⟨v5, rfl, ha5, hf5, hr5, hb5, hk5⟩; obtain ⟨A5, c5, e5⟩ := Kd.R_slice hr5; subst e5; have hcg3 : w5.cell? ⟨g, 3, none⟩ = some v := (blk_cell ha5 3).trans rfl; have hcf0 : w5.cell? ⟨w.heap.size, 0, none⟩ = some (.int .i64 0) := (blk_cell hf5 0).trans rfl; have hcf1 : w5.cell? ⟨w.heap.size, 1, none⟩ = some (.int .i64 0) := (blk_cell hf5 1).trans rfl; have hfz := blk_frozen ha5 3; have hfy := blk_frozen hf5 0; have hfx := blk_frozen hf5 1; have HA5 := Aside0.mk ha5; have HF5 := Aside0.mk hf5; have HR5 := Aside0.mk hr5; have HB5 := Aside0.mk hb5; have HK5 := Aside0.mk hk5; clear ha5 hf5 hr5 hb5 hk5))
  refine bodyPost_ret (results_cell_row rfl _ _ w.heap.size 97 #[_, _] (0, 0) _ rfl (blk_put (blk_put (blk_far HF5.out (p := ⟨g, 3, none⟩) (by simp; omega) _) 0 _ rfl) 1 _ rfl) Tryd.underlying97 rfl (by kernel_rfl)) rfl ?_
  exact head_post HPE.out HA5.out HF5.out HR5.out HB5.out HK5.out hB hg (by omega)

theorem aheader_any (B g : Nat) (text body : ByteArray) (v : Value) (w : World) (hB : B ≤ g) (h0 : 0 < B) (hgm : Gm w) (ht : text.size ≤ 65536) (h : Art g text ⟨#[]⟩ false v body w) :
    Calls Tryd.prog 63 #[.pointer (some ⟨g, 0, none⟩)] w (HeadPost B g text (headA text).1 (headA text).2 body w) := by
  unfold headA
  by_cases hp : Lib.hasPrefix text.data.toList [10] = true
  · rw [if_pos hp]; exact header1 B g text body v w hB h0 hgm ht h hp
  · rw [if_neg hp]
    by_cases hi : 0 ≤ Lib.index text.data.toList [10, 10]
    · rw [if_pos hi]
      have := index2_lt _ hi
      refine header2 B g text body v w hB h0 hgm ht h (Bool.eq_false_iff.2 hp) _ rfl hi (by simp at this; omega)
    · rw [if_neg hi]
      exact header3 B g text body v w hB h0 hgm ht h (Bool.eq_false_iff.2 hp) _ rfl (by omega)

set_option maxHeartbeats 4000000 in
theorem abody_any (B g : Nat) (text hd body : ByteArray) (v : Value) (w : World) (xs : List S74) (hB : B ≤ g) (h0 : 0 < B) (ht : text.size ≤ 65536) (hl : hd.size + 1 ≤ text.size)
    (h : Art g text hd true v body w) (hr : Kd.R k74 74 w B (fun _ => True) v xs) (k : Nat) (a c : Int) (hc : PC.article_CheckBody.f k (text.extract (hd.size + 1) text.size) = some (a, c)) :
    Calls Tryd.prog 65 #[.pointer (some ⟨g, 0, none⟩)] w fun e w' => e = .returned (failV (wrap64 (((hd.size : Int) + 1) + a)) c) ∧ Art g text hd true v (text.extract (hd.size + 1) text.size) w' ∧
      Kd.R k74 74 w' B (fun _ => True) v xs ∧ Below B w w' ∧ KeepBut w w' g none := by
  have hc0 : w.cell? ⟨g, 0, none⟩ = some (.string text) := (blk_cell h 0).trans rfl
  have hc1 : w.cell? ⟨g, 1, none⟩ = some (.string hd) := (blk_cell h 1).trans rfl
  have hc4 : w.cell? ⟨g, 4, none⟩ = some (.string body) := (blk_cell h 4).trans rfl
  have hf4 := blk_frozen h 4
  have hg : g < w.heap.size := (Array.getElem?_eq_some_iff.1 h).1
  obtain ⟨sub, hsub⟩ : ∃ sub, text.extract (hd.size + 1) text.size = sub := ⟨_, rfl⟩
  rw [hsub] at hc ⊢
  have hW0 := (Below.refl B w).setCell (p := ⟨g, 4, none⟩) hB (.string sub)
  have hA : Art g text hd true v sub (w.setCell ⟨g, 4, none⟩ (.string sub)) := (blk_set h 4 (.string sub)).trans rfl
  have hR0 := Kd.R_set hr h (by decide) 4 (.string sub)
  have hwr : wrap64 ((hd.size : Int) + 1) = (hd.size : Int) + 1 := by unfold wrap64; omega
  have hd1 : (0 ≤ (hd.size : Int) + 1) = True := eq_true (by omega)
  have hd2 : ((hd.size : Int) + 1 ≤ (text.size : Int)) = True := eq_true (by omega)
  have hti : ((hd.size : Int) + 1).toNat = hd.size + 1 := by omega
  have HP : Hid (Calls Tryd.prog 67 #[.string sub] ((w.setCell ⟨g, 4, none⟩ (.string sub)).alloc (.cells #[.int .i64 0, .int .i64 0] 97)) fun e w' =>
      e = .returned (.tuple #[.int .i64 a, .int .i64 c]) ∧ Art g text hd true v sub w' ∧ w'.heap[w.heap.size]? = some (.cells #[.int .i64 0, .int .i64 0] 97 (0, 0)) ∧
      Kd.R k74 74 w' B (fun _ => True) v xs ∧ Below B w w' ∧ KeepBut w w' g none) := by
    refine Lib.hid ((PC.article_CheckBody.calls k sub a c _ hc).mono ?_)
    rintro e w' ⟨he, hb⟩
    refine ⟨he, blk_below (blk_alloc hA _) hb, blk_below ?_ hb, ?_, ?_⟩
    · have := blk_new (w.setCell ⟨g, 4, none⟩ (.string sub)) (.cells #[.int .i64 0, .int .i64 0] 97)
      simpa using this
    · exact Kd.R_below (Kd.R_alloc hR0 _) hb
    · exact ⟨(hW0.alloc (by simp; omega) _).trans (hb.mono (by simp; omega)), keep_below (keep_alloc ((KeepBut.refl w g none).set_ 4 _) _) hb⟩
  have HB := Aside0.mk h
  clear h hr hc hW0 hA hR0
  subst hsub
  go_enter Tryd.func65, Tryd.ntmps65
  go_wp2_with (go_at_call 67; refine HP.out.mono ?_; rintro e w5 ⟨rfl, ha5, hf5, hr5, hb5, hk5⟩; have hcf0 : w5.cell? ⟨w.heap.size, 0, none⟩ = some (.int .i64 0) := (blk_cell hf5 0).trans rfl; have hcf1 : w5.cell? ⟨w.heap.size, 1, none⟩ = some (.int .i64 0) := (blk_cell hf5 1).trans rfl; have hfy := blk_frozen hf5 0; have hfx := blk_frozen hf5 1; have HA5 := Aside0.mk ha5; have HF5 := Aside0.mk hf5; have HR5 := Aside0.mk hr5; have HB5 := Aside0.mk hb5; have HK5 := Aside0.mk hk5; clear ha5 hf5 hr5 hb5 hk5)
  refine bodyPost_ret (results_cell_row rfl _ _ w.heap.size 97 #[_, _] (0, 0) _ rfl (blk_put (blk_put HF5.out 0 _ rfl) 1 _ rfl) Tryd.underlying97 rfl (by kernel_rfl)) rfl ?_
  have h2 := blk_set HF5.out 0 (.int .i64 (wrap64 ((hd.size : Int) + 1 + a)))
  have hBw : B ≤ w.heap.size := by omega
  refine ⟨rfl, ?_, Kd.R_set (Kd.R_set HR5.out HF5.out (by decide) 0 _) h2 (by decide) 1 _, ?_, keep_far (keep_far HK5.out (Nat.le_refl _) 0 _) (Nat.le_refl _) 1 _⟩
  · exact blk_far (blk_far HA5.out (p := ⟨w.heap.size, 0, none⟩) (by simp; omega) _) (p := ⟨w.heap.size, 1, none⟩) (by simp; omega) _
  · exact (HB5.out.setCell (p := ⟨w.heap.size, 0, none⟩) hBw _).setCell (p := ⟨w.heap.size, 1, none⟩) hBw _

end Go.Proofs.YtfeciafdioepiaaDoor
set_option linter.unusedVariables false
set_option linter.unusedSimpArgs false
namespace Go.Proofs.YtfeciafdioepiaaDoor
open Go.RowKit Go.Shelf Go.Proofs Go.Proofs.YtfeciafdioepiaaDoorW.PrintWords Go.Proofs.YtfeciafdioepiaaDoorW.PrintMore Go.Proofs.YtfeciafdioepiaaDoor.PA
attribute [local go_sem] Oper.semAt_some

def fldsA (s : ByteArray) : List S74 := (parseP (headA s).1.data.toList).1.map toS
def atA (s : ByteArray) : Int := (parseP (headA s).1.data.toList).2.1
def errA (s : ByteArray) : Int := (parseP (headA s).1.data.toList).2.2
def restA (s : ByteArray) : ByteArray := s.extract ((headA s).1.size + 1) s.size
def GV.AParse.f (k : Nat) (s : ByteArray) : Option (List S74 × ByteArray × Int × Int) :=
  if 65536 < s.size then some ([], ⟨#[]⟩, 65536, 5)
  else if errA s ≠ 0 then some ([], ⟨#[]⟩, atA s, errA s)
  else if (headA s).2 = false then some ([], ⟨#[]⟩, (s.size : Int), 4)
  else (PC.article_CheckBody.f k (restA s)).bind fun x => if x.2 ≠ 0 then some ([], ⟨#[]⟩, wrap64 (((headA s).1.size : Int) + 1 + x.1), x.2) else some (fldsA s, restA s, 0, 0)
theorem headA_len (s : ByteArray) (h : (headA s).2 = true) : (headA s).1.size + 1 ≤ s.size := by
  unfold headA at h ⊢
  split
  · rename_i hp
    have h4 : [10] <+: s.data.toList := List.isPrefixOf_iff_prefix.1 hp
    have := h4.length_le
    simp at this
    show 0 + 1 ≤ s.size
    omega
  · split
    · rename_i h1 h2
      have := index2_lt _ h2
      simp at this ⊢
      omega
    · rename_i h1 h2
      simp [h1, h2] at h

/-- Where the parser stands ahead of a step. -/
def AtStep (k : Nat) (s : ByteArray) (g n : Nat) (wr : World) : Nat → Prop
  | 0 => Art g s ⟨#[]⟩ false (.slice none 0 0) ⟨#[]⟩ wr
  | 1 => s.size ≤ 65536 ∧ Art g s ⟨#[]⟩ false (.slice none 0 0) ⟨#[]⟩ wr
  | 2 => s.size ≤ 65536 ∧ errA s = 0 ∧ ∃ v, Art g s (headA s).1 (headA s).2 v ⟨#[]⟩ wr ∧ Kd.R k74 74 wr n (fun _ => True) v (fldsA s)
  | 3 => s.size ≤ 65536 ∧ errA s = 0 ∧ (headA s).2 = true ∧ ∃ v, Art g s (headA s).1 true v ⟨#[]⟩ wr ∧ Kd.R k74 74 wr n (fun _ => True) v (fldsA s)
  | 4 => s.size ≤ 65536 ∧ errA s = 0 ∧ (headA s).2 = true ∧ (∃ a, PC.article_CheckBody.f k (restA s) = some (a, 0)) ∧ ∃ v, Art g s (headA s).1 true v (restA s) wr ∧ Kd.R k74 74 wr n (fun _ => True) v (fldsA s)
  | _ => False

/-- A step of the parser: it fails, and the answer is known, or it goes on. -/
theorem step_any (k : Nat) (s : ByteArray) (g n : Nat) (wr : World) (j : Nat) (r : List S74 × ByteArray × Int × Int) (hB : n ≤ g) (h0 : 0 < n) (hgm : Gm wr) (hf : GV.AParse.f k s = some r) (hj : j < 4) (h : AtStep k s g n wr j) :
    (∃ a c, c ≠ 0 ∧ r = ([], ⟨#[]⟩, a, c) ∧ Calls Tryd.prog (62 + j) #[.pointer (some ⟨g, 0, none⟩)] wr fun e w' => e = .returned (failV a c) ∧ Below n wr w' ∧ KeepBut wr w' g none) ∨
    (∃ a, Calls Tryd.prog (62 + j) #[.pointer (some ⟨g, 0, none⟩)] wr fun e w' => e = .returned (failV a 0) ∧ AtStep k s g n w' (j + 1) ∧ Below n wr w' ∧ KeepBut wr w' g none) := by
  have hkeep : ∀ {w' : World}, Below wr.heap.size wr w' → KeepBut wr w' g none := fun hb => keep_below (KeepBut.refl wr g none) hb
  have hnle : n ≤ wr.heap.size := by
    have : g < wr.heap.size := by
      match j, h with
      | 0, h => exact blk_lt h
      | 1, h => exact blk_lt h.2
      | 2, h => obtain ⟨_, _, v, ha, _⟩ := h; exact blk_lt ha
      | 3, h => obtain ⟨_, _, _, v, ha, _⟩ := h; exact blk_lt ha
    omega
  unfold GV.AParse.f at hf
  match j, hj, h with
  | 0, _, h =>
    have hL := length_any _ _ _ _ _ _ _ h
    by_cases hz : 65536 < s.size
    · rw [if_pos hz] at hf hL
      refine .inl ⟨65536, 5, by decide, by simpa using hf.symm, hL.mono ?_⟩
      rintro e w' ⟨he, hb⟩
      exact ⟨he, hb.mono hnle, hkeep hb⟩
    · rw [if_neg hz] at hL
      refine .inr ⟨0, hL.mono ?_⟩
      rintro e w' ⟨he, hb⟩
      exact ⟨he, ⟨by omega, blk_below h hb⟩, hb.mono hnle, hkeep hb⟩
  | 1, _, h =>
    obtain ⟨hz, ha⟩ := h
    rw [if_neg (by omega)] at hf
    have hH := aheader_any n g s ⟨#[]⟩ _ wr hB h0 hgm hz ha
    by_cases he : errA s = 0
    · refine .inr ⟨atA s, hH.mono ?_⟩
      rintro e w' ⟨v', hr, hA, hR, hb, hk⟩
      refine ⟨?_, ⟨hz, he, v', hA, hR⟩, hb, hk⟩
      rw [hr]; show Ending.returned (failV (atA s) (errA s)) = _; rw [he]
    · rw [if_pos he] at hf
      refine .inl ⟨atA s, errA s, he, by simpa using hf.symm, hH.mono ?_⟩
      rintro e w' ⟨v', hr, hA, hR, hb, hk⟩
      exact ⟨hr, hb, hk⟩
  | 2, _, h =>
    obtain ⟨hz, he, v, ha, hR⟩ := h
    rw [if_neg (by omega), if_neg (by simp [he])] at hf
    have hS := separation_any _ _ _ _ _ _ _ ha
    by_cases hfd : (headA s).2 = true
    · rw [if_pos hfd] at hS
      refine .inr ⟨0, hS.mono ?_⟩
      rintro e w' ⟨hr, hb⟩
      refine ⟨hr, ⟨hz, he, hfd, v, ?_, Kd.R_below hR hb⟩, hb.mono hnle, hkeep hb⟩
      rw [hfd] at ha
      exact blk_below ha hb
    · rw [if_neg hfd] at hS
      rw [if_pos (Bool.eq_false_iff.2 hfd)] at hf
      refine .inl ⟨(s.size : Int), 4, by decide, by simpa using hf.symm, hS.mono ?_⟩
      rintro e w' ⟨hr, hb⟩
      exact ⟨hr, hb.mono hnle, hkeep hb⟩
  | 3, _, h =>
    obtain ⟨hz, he, hfd, v, ha, hR⟩ := h
    rw [if_neg (by omega), if_neg (by simp [he]), if_neg (by simp [hfd])] at hf
    have hlen := headA_len s hfd
    cases hc : PC.article_CheckBody.f k (restA s) with
    | none => rw [hc] at hf; simp at hf
    | some x =>
      obtain ⟨a, c⟩ := x
      rw [hc] at hf
      have hB' := abody_any n g s (headA s).1 ⟨#[]⟩ v wr (fldsA s) hB h0 hz hlen ha hR k a c hc
      simp only [Option.bind_some] at hf
      by_cases hc0 : c = 0
      · subst hc0
        refine .inr ⟨wrap64 (((headA s).1.size : Int) + 1 + a), hB'.mono ?_⟩
        rintro e w' ⟨hr, hA, hR', hb, hk⟩
        exact ⟨hr, ⟨hz, he, hfd, ⟨a, hc⟩, v, hA, hR'⟩, hb, hk⟩
      · rw [if_pos hc0] at hf
        refine .inl ⟨_, c, hc0, by simpa using hf.symm, hB'.mono ?_⟩
        rintro e w' ⟨hr, hA, hR', hb, hk⟩
        exact ⟨hr, hb, hk⟩

theorem AtStep.below {k : Nat} {s : ByteArray} {g n : Nat} {w w' : World} {j : Nat} (h : AtStep k s g n w j) (hb : Below w.heap.size w w') : AtStep k s g n w' j := by
  match j, h with
  | 0, h => exact blk_below h hb
  | 1, h => exact ⟨h.1, blk_below h.2 hb⟩
  | 2, ⟨h1, h2, v, ha, hr⟩ => exact ⟨h1, h2, v, blk_below ha hb, Kd.R_below hr hb⟩
  | 3, ⟨h1, h2, h3, v, ha, hr⟩ => exact ⟨h1, h2, h3, v, blk_below ha hb, Kd.R_below hr hb⟩
  | 4, ⟨h1, h2, h3, h4, v, ha, hr⟩ => exact ⟨h1, h2, h3, h4, v, blk_below ha hb, Kd.R_below hr hb⟩
theorem blk_at2 (w : World) (o o1 : Obj) : ((w.alloc o).alloc o1).heap[w.heap.size + 1]? = some o1 := heap_alloc2_new w o o1
theorem blk_at3 (w : World) (o o1 o2 : Obj) : (((w.alloc o).alloc o1).alloc o2).heap[w.heap.size + 1 + 1]? = some o2 := by
  have := heap_alloc2_new (w.alloc o) o1 o2
  simpa using this
set_option maxHeartbeats 8000000 in
theorem GV.AParse.calls (k : Nat) (s : ByteArray) (r1 : List S74) (r2 : ByteArray) (r3 r4 : Int) (w : World) (hgm : Gm w) (h : GV.AParse.f k s = some (r1, r2, r3, r4)) :
    Calls Tryd.prog 35 #[.string s] w fun e w' => ∃ v0 : Value, e = .returned (.tuple #[.agg #[v0, .string r2], .int .i64 r3, .int .i64 r4]) ∧ Kd.R k74 74 w' w.heap.size (fun _ => True) v0 r1 ∧ Below w.heap.size w w' := by
  have H := Lib.hid h
  have HG := Aside0.mk hgm
  have h0 : 0 < w.heap.size := by
    obtain ⟨m, hm⟩ := hgm
    exact Nat.lt_of_le_of_lt (Nat.zero_le _) (World.block_lt_of_cell? w _ hm)
  clear h hgm
  go_enter Tryd.func35, Tryd.ntmps35
  go_wp2
  go_loopg [22] 5 (fun kq v22 wr => ∃ j : Nat, v22 = .int .i64 (j : Int) ∧ Aside0 (AtStep k s (w.heap.size + 1) w.heap.size wr j) ∧ Aside0 (wr.heap[w.heap.size]? = some (.cells #[.slice none 0 0, .string ⟨#[]⟩] 69 (0, 0))) ∧
    Aside0 (wr.heap[w.heap.size + 1 + 1]? = some (.cells #[.func (.func 62) #[.pointer (some ⟨w.heap.size + 1, 0, none⟩)] #[], .func (.func 63) #[.pointer (some ⟨w.heap.size + 1, 0, none⟩)] #[],
      .func (.func 64) #[.pointer (some ⟨w.heap.size + 1, 0, none⟩)] #[], .func (.func 65) #[.pointer (some ⟨w.heap.size + 1, 0, none⟩)] #[]] 94 (0, 0))) ∧ Aside0 (Below w.heap.size w wr) ∧ Aside0 (j + kq = 5))
  case atStart =>
    exact ⟨0, rfl, ⟨blk_alloc (blk_at2 w _ _) _⟩, ⟨blk_alloc (blk_alloc (blk_new w _) _) _⟩, ⟨blk_at3 w _ _ _⟩, ⟨below_alloc (below_alloc (below_alloc (Below.refl _ _) _) _) _⟩, ⟨rfl⟩⟩
  case round =>
    obtain ⟨j, rfl, HS, HR, HF, HW, HJ⟩ := hrel
    have hn1 : w.heap.size < wr.heap.size := blk_lt HR.out
    have hn2 : w.heap.size + 1 + 1 < wr.heap.size := blk_lt HF.out
    have hgw : Gm wr := HG.out.below HW.out h0
    match j, HS, HJ with
    | 0, HS, HJ =>
      obtain ⟨gk, rfl⟩ : ∃ m, gk = m + 1 := ⟨gk - 1, by have := HJ.out; omega⟩
      have hcf : wr.cell? ⟨w.heap.size + 1 + 1, 0, none⟩ = some (.func (.func 62) #[.pointer (some ⟨w.heap.size + 1, 0, none⟩)] #[]) := (blk_cell HF.out 0).trans rfl
      rcases step_any k s (w.heap.size + 1) w.heap.size wr 0 _ (Nat.le_succ _) h0 hgw H.out (by decide) HS.out with ⟨a, c, hc, hres, hL⟩ | ⟨a, hL⟩
      · have HL := Lib.hid hL
        obtain ⟨rfl, rfl, rfl, rfl⟩ : r1 = [] ∧ r2 = ⟨#[]⟩ ∧ r3 = a ∧ r4 = c := by simpa using hres
        have hcb : (r4 != 0) = true := bne_iff_ne.2 hc
        clear hL hc hgw
        go_wp2_with (go_at_call 62; refine HL.out.mono ?_; rintro e w5 ⟨rfl, hb5, hk5⟩; unfold failV; have hr5 := (hk5.2 _ hn1 (by omega) (by simp)).trans HR.out; have hf5 := (hk5.2 _ hn2 (by omega) (by simp)).trans HF.out; have hcn0 : w5.cell? ⟨w.heap.size, 0, none⟩ = some (.slice none 0 0) := (blk_cell hr5 0).trans rfl; have hcn1 : w5.cell? ⟨w.heap.size, 1, none⟩ = some (.string ⟨#[]⟩) := (blk_cell hr5 1).trans rfl; have hfn0 := blk_frozen hr5 0; have hfn1 := blk_frozen hr5 1; have hlt5 := blk_lt hr5; have HR5 := Aside0.mk hr5; have HF5 := Aside0.mk hf5; have HB5 := Aside0.mk (HW.out.trans hb5); clear hb5 hr5 hf5 hk5)
        go_region_with (fail)
        all_goals (
          go_wp2
          refine bodyPost_ret (results_ctt rfl _ _ _ 69 #[.slice none 0 0, .string ⟨#[]⟩] (0, 0) _ rfl (by repeat (first | assumption | exact (Aside0.out (by assumption)) | refine blk_drewN ?_ _ | refine blk_drew ?_ | refine blk_alloc ?_ _ | refine blk_put (cs := #[.slice none 0 0, .string ⟨#[]⟩]) ?_ _ _ rfl)) Tryd.underlying69 rfl (by kernel_rfl)) rfl ?_
          exact ⟨.slice none 0 0, rfl, Kd.R_nil _ _ _ _ _, by repeat (first | exact (Aside0.out (by assumption)) | apply below_alloc | apply pw_below_drewN | apply below_drew1 | refine below_set ?_ (Nat.le_refl _))⟩)
      · have HL := Lib.hid hL
        clear hL hgw
        go_wp2_with (go_at_call 62; refine HL.out.mono ?_; rintro e w5 ⟨rfl, hs5, hb5, hk5⟩; unfold failV; have HS5 := Aside0.mk hs5; clear hs5; have hr5 := (hk5.2 _ hn1 (by omega) (by simp)).trans HR.out; have hf5 := (hk5.2 _ hn2 (by omega) (by simp)).trans HF.out; have hcn0 : w5.cell? ⟨w.heap.size, 0, none⟩ = some (.slice none 0 0) := (blk_cell hr5 0).trans rfl; have hcn1 : w5.cell? ⟨w.heap.size, 1, none⟩ = some (.string ⟨#[]⟩) := (blk_cell hr5 1).trans rfl; have hfn0 := blk_frozen hr5 0; have hfn1 := blk_frozen hr5 1; have hlt5 := blk_lt hr5; have HR5 := Aside0.mk hr5; have HF5 := Aside0.mk hf5; have HB5 := Aside0.mk (HW.out.trans hb5); clear hb5 hr5 hf5 hk5)
        go_roundg gk
        case measure => omega
        case rel => exact ⟨1, rfl, ⟨HS5.out.below ((Below.refl _ _).alloc (Nat.le_refl _) _)⟩, ⟨blk_alloc HR5.out _⟩, ⟨blk_alloc HF5.out _⟩, ⟨below_alloc HB5.out _⟩, ⟨by have := HJ.out; omega⟩⟩
    | 1, HS, HJ =>
      obtain ⟨gk, rfl⟩ : ∃ m, gk = m + 1 := ⟨gk - 1, by have := HJ.out; omega⟩
      have hcf : wr.cell? ⟨w.heap.size + 1 + 1, 1, none⟩ = some (.func (.func 63) #[.pointer (some ⟨w.heap.size + 1, 0, none⟩)] #[]) := (blk_cell HF.out 1).trans rfl
      rcases step_any k s (w.heap.size + 1) w.heap.size wr 1 _ (Nat.le_succ _) h0 hgw H.out (by decide) HS.out with ⟨a, c, hc, hres, hL⟩ | ⟨a, hL⟩
      · have HL := Lib.hid hL
        obtain ⟨rfl, rfl, rfl, rfl⟩ : r1 = [] ∧ r2 = ⟨#[]⟩ ∧ r3 = a ∧ r4 = c := by simpa using hres
        have hcb : (r4 != 0) = true := bne_iff_ne.2 hc
        clear hL hc hgw
        go_wp2_with (go_at_call 63; refine HL.out.mono ?_; rintro e w5 ⟨rfl, hb5, hk5⟩; unfold failV; have hr5 := (hk5.2 _ hn1 (by omega) (by simp)).trans HR.out; have hf5 := (hk5.2 _ hn2 (by omega) (by simp)).trans HF.out; have hcn0 : w5.cell? ⟨w.heap.size, 0, none⟩ = some (.slice none 0 0) := (blk_cell hr5 0).trans rfl; have hcn1 : w5.cell? ⟨w.heap.size, 1, none⟩ = some (.string ⟨#[]⟩) := (blk_cell hr5 1).trans rfl; have hfn0 := blk_frozen hr5 0; have hfn1 := blk_frozen hr5 1; have hlt5 := blk_lt hr5; have HR5 := Aside0.mk hr5; have HF5 := Aside0.mk hf5; have HB5 := Aside0.mk (HW.out.trans hb5); clear hb5 hr5 hf5 hk5)
        go_region_with (fail)
        all_goals (
          go_wp2
          refine bodyPost_ret (results_ctt rfl _ _ _ 69 #[.slice none 0 0, .string ⟨#[]⟩] (0, 0) _ rfl (by repeat (first | assumption | exact (Aside0.out (by assumption)) | refine blk_drewN ?_ _ | refine blk_drew ?_ | refine blk_alloc ?_ _ | refine blk_put (cs := #[.slice none 0 0, .string ⟨#[]⟩]) ?_ _ _ rfl)) Tryd.underlying69 rfl (by kernel_rfl)) rfl ?_
          exact ⟨.slice none 0 0, rfl, Kd.R_nil _ _ _ _ _, by repeat (first | exact (Aside0.out (by assumption)) | apply below_alloc | apply pw_below_drewN | apply below_drew1 | refine below_set ?_ (Nat.le_refl _))⟩)
      · have HL := Lib.hid hL
        clear hL hgw
        go_wp2_with (go_at_call 63; refine HL.out.mono ?_; rintro e w5 ⟨rfl, hs5, hb5, hk5⟩; unfold failV; have HS5 := Aside0.mk hs5; clear hs5; have hr5 := (hk5.2 _ hn1 (by omega) (by simp)).trans HR.out; have hf5 := (hk5.2 _ hn2 (by omega) (by simp)).trans HF.out; have hcn0 : w5.cell? ⟨w.heap.size, 0, none⟩ = some (.slice none 0 0) := (blk_cell hr5 0).trans rfl; have hcn1 : w5.cell? ⟨w.heap.size, 1, none⟩ = some (.string ⟨#[]⟩) := (blk_cell hr5 1).trans rfl; have hfn0 := blk_frozen hr5 0; have hfn1 := blk_frozen hr5 1; have hlt5 := blk_lt hr5; have HR5 := Aside0.mk hr5; have HF5 := Aside0.mk hf5; have HB5 := Aside0.mk (HW.out.trans hb5); clear hb5 hr5 hf5 hk5)
        go_roundg gk
        case measure => omega
        case rel => exact ⟨2, rfl, ⟨HS5.out.below ((Below.refl _ _).alloc (Nat.le_refl _) _)⟩, ⟨blk_alloc HR5.out _⟩, ⟨blk_alloc HF5.out _⟩, ⟨below_alloc HB5.out _⟩, ⟨by have := HJ.out; omega⟩⟩
    | 2, HS, HJ =>
      obtain ⟨gk, rfl⟩ : ∃ m, gk = m + 1 := ⟨gk - 1, by have := HJ.out; omega⟩
      have hcf : wr.cell? ⟨w.heap.size + 1 + 1, 2, none⟩ = some (.func (.func 64) #[.pointer (some ⟨w.heap.size + 1, 0, none⟩)] #[]) := (blk_cell HF.out 2).trans rfl
      rcases step_any k s (w.heap.size + 1) w.heap.size wr 2 _ (Nat.le_succ _) h0 hgw H.out (by decide) HS.out with ⟨a, c, hc, hres, hL⟩ | ⟨a, hL⟩
      · have HL := Lib.hid hL
        obtain ⟨rfl, rfl, rfl, rfl⟩ : r1 = [] ∧ r2 = ⟨#[]⟩ ∧ r3 = a ∧ r4 = c := by simpa using hres
        have hcb : (r4 != 0) = true := bne_iff_ne.2 hc
        clear hL hc hgw
        go_wp2_with (go_at_call 64; refine HL.out.mono ?_; rintro e w5 ⟨rfl, hb5, hk5⟩; unfold failV; have hr5 := (hk5.2 _ hn1 (by omega) (by simp)).trans HR.out; have hf5 := (hk5.2 _ hn2 (by omega) (by simp)).trans HF.out; have hcn0 : w5.cell? ⟨w.heap.size, 0, none⟩ = some (.slice none 0 0) := (blk_cell hr5 0).trans rfl; have hcn1 : w5.cell? ⟨w.heap.size, 1, none⟩ = some (.string ⟨#[]⟩) := (blk_cell hr5 1).trans rfl; have hfn0 := blk_frozen hr5 0; have hfn1 := blk_frozen hr5 1; have hlt5 := blk_lt hr5; have HR5 := Aside0.mk hr5; have HF5 := Aside0.mk hf5; have HB5 := Aside0.mk (HW.out.trans hb5); clear hb5 hr5 hf5 hk5)
        go_region_with (fail)
        all_goals (
          go_wp2
          refine bodyPost_ret (results_ctt rfl _ _ _ 69 #[.slice none 0 0, .string ⟨#[]⟩] (0, 0) _ rfl (by repeat (first | assumption | exact (Aside0.out (by assumption)) | refine blk_drewN ?_ _ | refine blk_drew ?_ | refine blk_alloc ?_ _ | refine blk_put (cs := #[.slice none 0 0, .string ⟨#[]⟩]) ?_ _ _ rfl)) Tryd.underlying69 rfl (by kernel_rfl)) rfl ?_
          exact ⟨.slice none 0 0, rfl, Kd.R_nil _ _ _ _ _, by repeat (first | exact (Aside0.out (by assumption)) | apply below_alloc | apply pw_below_drewN | apply below_drew1 | refine below_set ?_ (Nat.le_refl _))⟩)
      · have HL := Lib.hid hL
        clear hL hgw
        go_wp2_with (go_at_call 64; refine HL.out.mono ?_; rintro e w5 ⟨rfl, hs5, hb5, hk5⟩; unfold failV; have HS5 := Aside0.mk hs5; clear hs5; have hr5 := (hk5.2 _ hn1 (by omega) (by simp)).trans HR.out; have hf5 := (hk5.2 _ hn2 (by omega) (by simp)).trans HF.out; have hcn0 : w5.cell? ⟨w.heap.size, 0, none⟩ = some (.slice none 0 0) := (blk_cell hr5 0).trans rfl; have hcn1 : w5.cell? ⟨w.heap.size, 1, none⟩ = some (.string ⟨#[]⟩) := (blk_cell hr5 1).trans rfl; have hfn0 := blk_frozen hr5 0; have hfn1 := blk_frozen hr5 1; have hlt5 := blk_lt hr5; have HR5 := Aside0.mk hr5; have HF5 := Aside0.mk hf5; have HB5 := Aside0.mk (HW.out.trans hb5); clear hb5 hr5 hf5 hk5)
        go_roundg gk
        case measure => omega
        case rel => exact ⟨3, rfl, ⟨HS5.out.below ((Below.refl _ _).alloc (Nat.le_refl _) _)⟩, ⟨blk_alloc HR5.out _⟩, ⟨blk_alloc HF5.out _⟩, ⟨below_alloc HB5.out _⟩, ⟨by have := HJ.out; omega⟩⟩
    | 3, HS, HJ =>
      obtain ⟨gk, rfl⟩ : ∃ m, gk = m + 1 := ⟨gk - 1, by have := HJ.out; omega⟩
      have hcf : wr.cell? ⟨w.heap.size + 1 + 1, 3, none⟩ = some (.func (.func 65) #[.pointer (some ⟨w.heap.size + 1, 0, none⟩)] #[]) := (blk_cell HF.out 3).trans rfl
      rcases step_any k s (w.heap.size + 1) w.heap.size wr 3 _ (Nat.le_succ _) h0 hgw H.out (by decide) HS.out with ⟨a, c, hc, hres, hL⟩ | ⟨a, hL⟩
      · have HL := Lib.hid hL
        obtain ⟨rfl, rfl, rfl, rfl⟩ : r1 = [] ∧ r2 = ⟨#[]⟩ ∧ r3 = a ∧ r4 = c := by simpa using hres
        have hcb : (r4 != 0) = true := bne_iff_ne.2 hc
        clear hL hc hgw
        go_wp2_with (go_at_call 65; refine HL.out.mono ?_; rintro e w5 ⟨rfl, hb5, hk5⟩; unfold failV; have hr5 := (hk5.2 _ hn1 (by omega) (by simp)).trans HR.out; have hf5 := (hk5.2 _ hn2 (by omega) (by simp)).trans HF.out; have hcn0 : w5.cell? ⟨w.heap.size, 0, none⟩ = some (.slice none 0 0) := (blk_cell hr5 0).trans rfl; have hcn1 : w5.cell? ⟨w.heap.size, 1, none⟩ = some (.string ⟨#[]⟩) := (blk_cell hr5 1).trans rfl; have hfn0 := blk_frozen hr5 0; have hfn1 := blk_frozen hr5 1; have hlt5 := blk_lt hr5; have HR5 := Aside0.mk hr5; have HF5 := Aside0.mk hf5; have HB5 := Aside0.mk (HW.out.trans hb5); clear hb5 hr5 hf5 hk5)
        go_region_with (fail)
        all_goals (
          go_wp2
          refine bodyPost_ret (results_ctt rfl _ _ _ 69 #[.slice none 0 0, .string ⟨#[]⟩] (0, 0) _ rfl (by repeat (first | assumption | exact (Aside0.out (by assumption)) | refine blk_drewN ?_ _ | refine blk_drew ?_ | refine blk_alloc ?_ _ | refine blk_put (cs := #[.slice none 0 0, .string ⟨#[]⟩]) ?_ _ _ rfl)) Tryd.underlying69 rfl (by kernel_rfl)) rfl ?_
          exact ⟨.slice none 0 0, rfl, Kd.R_nil _ _ _ _ _, by repeat (first | exact (Aside0.out (by assumption)) | apply below_alloc | apply pw_below_drewN | apply below_drew1 | refine below_set ?_ (Nat.le_refl _))⟩)
      · have HL := Lib.hid hL
        clear hL hgw
        go_wp2_with (go_at_call 65; refine HL.out.mono ?_; rintro e w5 ⟨rfl, hs5, hb5, hk5⟩; unfold failV; have HS5 := Aside0.mk hs5; clear hs5; have hr5 := (hk5.2 _ hn1 (by omega) (by simp)).trans HR.out; have hf5 := (hk5.2 _ hn2 (by omega) (by simp)).trans HF.out; have hcn0 : w5.cell? ⟨w.heap.size, 0, none⟩ = some (.slice none 0 0) := (blk_cell hr5 0).trans rfl; have hcn1 : w5.cell? ⟨w.heap.size, 1, none⟩ = some (.string ⟨#[]⟩) := (blk_cell hr5 1).trans rfl; have hfn0 := blk_frozen hr5 0; have hfn1 := blk_frozen hr5 1; have hlt5 := blk_lt hr5; have HR5 := Aside0.mk hr5; have HF5 := Aside0.mk hf5; have HB5 := Aside0.mk (HW.out.trans hb5); clear hb5 hr5 hf5 hk5)
        go_roundg gk
        case measure => omega
        case rel => exact ⟨4, rfl, ⟨HS5.out.below ((Below.refl _ _).alloc (Nat.le_refl _) _)⟩, ⟨blk_alloc HR5.out _⟩, ⟨blk_alloc HF5.out _⟩, ⟨below_alloc HB5.out _⟩, ⟨by have := HJ.out; omega⟩⟩
    | 4, HS, HJ =>
      obtain ⟨gk, rfl⟩ : ∃ m, gk = m + 1 := ⟨gk - 1, by have := HJ.out; omega⟩
      obtain ⟨hz, he, hfd, ⟨a, hcb⟩, v, ha, hR⟩ := HS.out
      have hres : r1 = fldsA s ∧ r2 = restA s ∧ r3 = 0 ∧ r4 = 0 := by
        have hf := H.out
        unfold GV.AParse.f at hf
        rw [if_neg (by omega), if_neg (by simp [he]), if_neg (by simp [hfd]), hcb] at hf
        simp at hf
        obtain ⟨h1, h2, h3, h4⟩ := hf
        exact ⟨h1.symm, h2.symm, h3.symm, h4.symm⟩
      obtain ⟨rfl, rfl, rfl, rfl⟩ := hres
      have hcn0 : wr.cell? ⟨w.heap.size, 0, none⟩ = some (.slice none 0 0) := (blk_cell HR.out 0).trans rfl
      have hcn1 : wr.cell? ⟨w.heap.size, 1, none⟩ = some (.string ⟨#[]⟩) := (blk_cell HR.out 1).trans rfl
      have hcg3 : wr.cell? ⟨w.heap.size + 1, 3, none⟩ = some v := (blk_cell ha 3).trans rfl
      have hcg4 : wr.cell? ⟨w.heap.size + 1, 4, none⟩ = some (.string (restA s)) := (blk_cell ha 4).trans rfl
      have hfn0 := blk_frozen HR.out 0
      have hfn1 := blk_frozen HR.out 1
      obtain ⟨A5, c5, e5⟩ := Kd.R_slice hR
      subst e5
      have HA := Aside0.mk ha
      have HR0 := Aside0.mk hR
      clear ha hR hcb hgw hz he hfd
      go_wp2
      refine bodyPost_ret (results_ctt rfl _ _ _ 69 #[.slice A5 _ c5, .string (restA s)] (0, 0) _ rfl (blk_put (blk_put HR.out 0 _ rfl) 1 _ rfl) Tryd.underlying69 rfl (by kernel_rfl)) rfl ?_
      exact ⟨_, rfl, Kd.R_set (Kd.R_set HR0.out HR.out (by decide) 0 _) (blk_set HR.out 0 _) (by decide) 1 _, below_set (below_set HW.out (Nat.le_refl _)) (Nat.le_refl _)⟩
    | j + 5, HS, HJ => exact HS.out.elim

end Go.Proofs.YtfeciafdioepiaaDoor
