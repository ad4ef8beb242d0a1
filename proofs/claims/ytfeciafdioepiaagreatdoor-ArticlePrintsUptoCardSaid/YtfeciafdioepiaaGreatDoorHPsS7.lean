/- The contracts of strings.Cut at a line feed and of the iterator of article's Lin; The contract of article's Count over this translation.; The contracts of utf8's Encode at what was decoded, and of Printable, over this ; The contract of article's badByte over this translation. -/
import Derived.Test.YtfeciafdioepiaaGreatDoorHPsS6
import Derived.Test.YtfeciafdioepiaaGreatDoorProg
import Derived.Below
import Derived.Deep.Draws
import Derived.Deep.AppendLies
import Derived.Maps.AppendAt
import Derived.OwnWalk
import Derived.Laws.BytesArg
import Derived.Laws.MakeOwn
import Derived.Laws.OwnMore
import Derived.Deep.OwnRows
import Derived.Tactics
import Derived.Lib.ConvBytes
import Derived.Laws.Slices
import Derived.WalkKit
import Derived.KernelRfl
import Derived.RowKit3
import Derived.Deep.LoopGhost
import Derived.Deep.QuietTactic
import Derived.BigQuiet
import Derived.WideLaws
import Derived.Deep.DeepCutAuto
import Derived.Deep.CutBlock
import Derived.Deep.RegionHeld3
import Derived.Laws.Rows
import Derived.Lib.AppendStr
import Derived.ArgAppend
import Derived.Laws.IdiomCopy
import Derived.OrdersHeld
import Derived.Laws.BitsLemmas
import Derived.RowKit
import Derived.Test.YtfeciafdioepiaaGreatDoorHPsS3
import Derived.Test.YtfeciafdioepiaaGreatDoorHPsS0
import Derived.Test.YtfeciafdioepiaaGreatDoorHPsS1
import Derived.Laws.StructEq
set_option linter.unusedVariables false
set_option linter.unusedSimpArgs false
namespace Go.Proofs.YtfeciafdioepiaaGreatDoor
open Go.RowKit Go.Shelf Go.Proofs Go.Proofs.YtfeciafdioepiaaGreatDoorW.PrintWords Go.Proofs.YtfeciafdioepiaaGreatDoorW.PrintMore Go.Proofs.YtfeciafdioepiaaGreatDoor.PA

/-- How many bytes the first line has, without its end. -/
def lineN (l : List UInt8) : Nat := spanL notNl l
theorem lineN_le (l : List UInt8) : lineN l ≤ l.length := spanL_le _ _
/-- Is there an end of a line? -/
def hasNl (l : List UInt8) : Bool := decide (lineN l < l.length)
theorem extract_mkS (s : ByteArray) (n : Nat) : s.extract 0 n = mkS (s.data.toList.take n) := by rw [extract_mk]; simp
theorem extract_tailS (s : ByteArray) (n : Nat) : s.extract n s.size = mkS (s.data.toList.drop n) := by rw [← extract_tail, mkS_data]

set_option maxHeartbeats 1000000 in
set_option maxRecDepth 100000 in
theorem cutlite_nl (s : ByteArray) (w : World) (hs : s.size ≤ 140737488355328) :
    Calls Tryz.prog 65 #[.string s, .string ⟨#[10]⟩] w fun e w' => e = .returned (.tuple #[.string (mkS (s.data.toList.take (lineN s.data.toList))), .string (mkS (s.data.toList.drop (lineN s.data.toList + 1))), .bool (hasNl s.data.toList)]) ∧ ∃ n, w' = w.drewN n := by
  have hlen : s.data.toList.length = s.size := by simp
  have hle := lineN_le s.data.toList
  have hix : Lib.indexByte s.data.toList 10 = if lineN s.data.toList = s.data.toList.length then -1 else (lineN s.data.toList : Int) := indexByte_span 10 s.data.toList
  have hx := Tryz.stringslite_Index_one s 10 w
  rw [hix] at hx
  have ht := extract_mkS s (lineN s.data.toList)
  have hd := extract_tailS s (lineN s.data.toList + 1)
  by_cases h : lineN s.data.toList = s.data.toList.length
  · rw [if_pos h] at hx
    have hb : hasNl s.data.toList = false := by unfold hasNl; rw [h]; simp
    have h1 : s.data.toList.take (lineN s.data.toList) = s.data.toList := List.take_of_length_le (by omega)
    have h2 : s.data.toList.drop (lineN s.data.toList + 1) = [] := List.drop_eq_nil_of_le (by omega)
    have e2 : mkS [] = ⟨#[]⟩ := rfl
    rw [hb, h1, h2, mkS_data, e2]
    have Hx := Lib.hid hx
    clear hlen hix hx ht hd hb h1 h2 h e2
    go_enter Tryz.func65, Tryz.ntmps65
    go_wp2_with (go_at_call 84; refine Hx.out.mono ?_; rintro e w' ⟨rfl, rfl⟩)
    exact bodyPost_ret (v := .tuple #[.string s, .string ⟨#[]⟩, .bool false]) (by simp [results, Tryz.results65, go_sem]) rfl ⟨rfl, 0, rfl⟩
  · rw [if_neg h] at hx
    have hb : hasNl s.data.toList = true := by unfold hasNl; rw [decide_eq_true_iff]; omega
    rw [hb]
    generalize hn : lineN s.data.toList = n at *
    rw [← ht, ← hd]
    have h1 : n < s.size := by omega
    have h1' : (n : Int) + 1 ≤ (s.size : Int) := by omega
    have Hx := Lib.hid hx
    clear hlen hix hx ht hd hb h hn hle
    go_enter Tryz.func65, Tryz.ntmps65
    go_wp2_with (go_at_call 84; refine Hx.out.mono ?_; rintro e w' ⟨rfl, rfl⟩)
    go_quiet (fail)
    go_wp2
    refine bodyPost_ret (v := .tuple #[.string (s.extract 0 n), .string (s.extract (n + 1) s.size), .bool true]) ?_ rfl ⟨rfl, _, rfl⟩
    simp [results, Tryz.results65, go_sem]
set_option maxHeartbeats 1000000 in
set_option maxRecDepth 100000 in
theorem cut_nl (s : ByteArray) (w : World) (hs : s.size ≤ 140737488355328) :
    Calls Tryz.prog 41 #[.string s, .string ⟨#[10]⟩] w fun e w' => e = .returned (.tuple #[.string (mkS (s.data.toList.take (lineN s.data.toList))), .string (mkS (s.data.toList.drop (lineN s.data.toList + 1))), .bool (hasNl s.data.toList)]) ∧ ∃ n, w' = w.drewN n := by
  have hx := cutlite_nl s w hs
  generalize mkS (s.data.toList.take (lineN s.data.toList)) = a at *
  generalize mkS (s.data.toList.drop (lineN s.data.toList + 1)) = b at *
  generalize hasNl s.data.toList = c at *
  have Hx := Lib.hid hx
  clear hx
  go_enter Tryz.func41, Tryz.ntmps41
  go_wp2_with (go_at_call 65; refine Hx.out.mono ?_; rintro e w' ⟨rfl, n, rfl⟩)
  exact bodyPost_ret (v := .tuple #[.string a, .string b, .bool c]) (by simp [results, Tryz.results41, go_sem]) rfl ⟨rfl, _, rfl⟩
set_option maxHeartbeats 1000000 in
set_option maxRecDepth 100000 in
theorem lines_any (s : ByteArray) (w : World) : Calls Tryz.prog 48 #[.string s] w fun e w' => e = .returned (.func (.func 75) #[] #[.pointer (some ⟨w.heap.size, 0, none⟩)]) ∧ w' = w.alloc (.cells #[.string s] 9) := by
  go_enter Tryz.func48, Tryz.ntmps48
  go_wp2
  go_ret
  exact ⟨rfl, rfl⟩

/-- The lines of bytes with their numbers. -/
def linesG : Nat → Nat → List UInt8 → List (Nat × List UInt8)
  | 0, _, _ => []
  | f + 1, i, l => if l = [] then [] else (i, l.take (lineN l)) :: linesG f (i + 1) (l.drop (lineN l + 1))
def linesU (l : List UInt8) : List (Nat × List UInt8) := linesG l.length 0 l
theorem linesG_nil (f i : Nat) : linesG f i [] = [] := by cases f <;> simp [linesG]
theorem linesG_cons {f i : Nat} {l : List UInt8} (h : l ≠ []) : linesG (f + 1) i l = (i, l.take (lineN l)) :: linesG f (i + 1) (l.drop (lineN l + 1)) := by
  simp only [linesG]; rw [if_neg h]
/-- How Lines' iterator moves: it draws, and it writes its own variable. -/
def LineMv (b : Nat) (W W' : World) : Prop := (∃ n, W' = W.drewN n) ∨ (∃ v, W' = W.setCell ⟨b, 0, none⟩ v)

attribute [local go_sem] Oper.semAt_some
set_option maxHeartbeats 1000000 in
set_option maxRecDepth 100000 in
theorem lines_iter (s : ByteArray) (b : Nat) (hs : s.size ≤ 140737488355328) :
    Iter Tryz.prog 75 #[.pointer (some ⟨b, 0, none⟩)] (fun x : Nat × List UInt8 => #[.int .i64 x.1, .string (mkS x.2)]) (fun W => W.heap[b]? = some (.cells #[.string s] 9 (0, 0))) (LineMv b) (fun W => ∃ v, W.heap[b]? = some (.cells #[v] 9 (0, 0)))
      (fun xs => xs = linesU s.data.toList) (fun pre => pre <+: linesU s.data.toList) (fun pre x => pre ++ [x] <+: linesU s.data.toList) := by
  intro n l J Jx W hm hr hY h0 hin
  have hlen : s.data.toList.length = s.size := by simp
  have Hlen := Lib.hid hlen
  have Hm := Lib.hid hm
  have Hr := Lib.hid hr
  have HY := Lib.hid hY
  have HI := Aside0.mk hin
  clear hlen hm hr hY hin
  refine callsIn_of_wp Tryz.func75 rfl trivial ?_ rfl
  simp only [Tryz.ntmps75, List.size_toArray, List.length_cons, List.length_nil, Nat.reduceAdd, Nat.reduceSub, Array.replicate_succ, Array.replicate_zero, List.push_toArray, List.append_toArray, List.nil_append, List.cons_append]
  gi_wp2
  gi_loopw [3] (fun v3 wr => ∃ (i f : Nat) (cur : List UInt8) (pre : List (Nat × List UInt8)), i + cur.length ≤ s.size ∧ v3 = .int .i64 i ∧ Aside0 (cur.length ≤ f ∧ linesU s.data.toList = pre ++ linesG f i cur) ∧ Aside0 (J pre wr) ∧ Aside0 (wr.heap[b]? = some (.cells #[.string (mkS cur)] 9 (0, 0)))) (fun v3 _ => s.size - (intOf v3).toNat)
  case atStart => exact ⟨0, s.size, s.data.toList, [], by rw [Hlen.out]; omega, rfl, ⟨by rw [Hlen.out]; exact Nat.le_refl _, by unfold linesU; rw [Hlen.out]; rfl⟩, ⟨h0⟩, ⟨by rw [mkS_data]; exact HI.out⟩⟩
  case round =>
    obtain ⟨i, f, cur, pre, hk, rfl, HF, HJ, HB⟩ := hrel
    have hcell := (blk_cell HB.out 0).trans rfl
    by_cases hc0 : cur = []
    · subst hc0
      have e0 : mkS ([] : List UInt8) = ⟨#[]⟩ := rfl
      rw [e0] at hcell
      gi_wp2
      go_end0
      refine ⟨⟨_, rfl⟩, .inl ⟨pre, ?_, HJ.out⟩⟩
      rw [HF.out.2, linesG_nil]; simp
    · have hsz : (mkS cur).size = cur.length := mkS_size cur
      have hx := cut_nl (mkS cur) wr (by omega)
      rw [mkS_toList] at hx
      have hle := lineN_le cur
      have hfu := HF.out
      have hcl : 0 < cur.length := List.length_pos_iff.2 hc0
      obtain ⟨f', rfl⟩ : ∃ f', f = f' + 1 := ⟨f - 1, by omega⟩
      rw [linesG_cons hc0] at hfu
      have hdl : (cur.drop (lineN cur + 1)).length + 1 ≤ cur.length := by rw [List.length_drop]; omega
      generalize hl1 : cur.take (lineN cur) = line at *
      generalize hl2 : cur.drop (lineN cur + 1) = rest at *
      generalize hasNl cur = nl at *
      have hne : (mkS cur).toList ≠ [] := by rw [Lib.toList_data, mkS_toList]; exact hc0
      have hne' : (mkS cur).toList.isEmpty = false := by simpa using hne
      have Hx := Lib.hid hx
      have Hfu := Lib.hid hfu
      clear hx hfu hl1 hl2 hle
      generalize hcs : mkS cur = cs at *
      have Hcs := Lib.hid hcs
      clear hcs
      gi_wp2_with (refine ⟨trivial, (fun h => nomatch h), ?_⟩; gi_at_call 41; refine (callsIn_wide.2 Hx.out).mono ?_; rintro e w1 ⟨rfl, m, rfl⟩; have hJ1 := Hm.out pre wr (wr.drewN m) HJ.out (.inl ⟨m, rfl⟩); obtain ⟨fn, tmps, assign, body, hy, hR⟩ := HY.out pre (i, line) _ hJ1 (by rw [Hfu.out.2]; exact ⟨linesG f' (i + 1) rest, by simp⟩); have HJ1 := Aside0.mk hJ1; clear hJ1; dsimp only at hy)
      refine ⟨(fun h => nomatch h), hR.mono ?_⟩
      rintro e W3 (⟨rfl, hJ3⟩ | ⟨rfl, hJx3⟩)
      · obtain ⟨v, hv⟩ := Hr.out _ _ hJ3
        have hcv := (blk_cell hv 0).trans rfl
        have hfv := blk_frozen hv 0
        gi_wp2
        go_roundw
        case rel => exact ⟨i + 1, f', rest, pre ++ [(i, line)], by omega, by go_num, ⟨by have := Hfu.out.1; omega, by rw [Hfu.out.2]; simp⟩, ⟨Hm.out _ _ _ hJ3 (.inr ⟨_, rfl⟩)⟩, ⟨(blk_set hv 0 _).trans rfl⟩⟩
        case measure => simp [intOf]; omega
      · gi_wp2
        refine bodyPost_ret (results_none rfl _ _ _) rfl ?_
        exact ⟨⟨_, rfl⟩, .inr ⟨pre ++ [(i, line)], by rw [Hfu.out.2]; exact ⟨linesG f' (i + 1) rest, by simp⟩, hJx3⟩⟩
end Go.Proofs.YtfeciafdioepiaaGreatDoor
set_option linter.unusedVariables false
set_option linter.unusedSimpArgs false
namespace Go.Proofs.YtfeciafdioepiaaGreatDoor
open Go.RowKit Go.Shelf Go.Proofs Go.Proofs.YtfeciafdioepiaaGreatDoorW.PrintWords Go.Proofs.YtfeciafdioepiaaGreatDoorW.PrintMore Go.Proofs.YtfeciafdioepiaaGreatDoor.PA
attribute [local go_sem] Oper.semAt_some

theorem LineMv.others {b : Nat} {W W' : World} (h : LineMv b W W') : KeepsOthers W W' := by
  rcases h with ⟨n, rfl⟩ | ⟨v, rfl⟩
  · exact ⟨Nat.le_refl _, fun _ _ h _ => h⟩
  · exact KeepsOthers.setCell _ _ _
theorem blk_other {W : World} {b c : Nat} {o : Obj} (h : W.heap[c]? = some o) (hne : c ≠ b) (v : Value) : (W.setCell ⟨b, 0, none⟩ v).heap[c]? = some o := (Below.heap_setCell W ⟨b, 0, none⟩ v c hne).trans h
theorem LineMv.blk {b c : Nat} {W W' : World} {o : Obj} (h : LineMv b W W') (hc : W.heap[c]? = some o) (hne : c ≠ b) : W'.heap[c]? = some o := by
  rcases h with ⟨n, rfl⟩ | ⟨v, rfl⟩
  · exact hc
  · exact blk_other hc hne v
theorem LineMv.below {b B : Nat} {w W W' : World} (h : LineMv b W W') (hB : B ≤ b) (hW : Below B w W) : Below B w W' := by
  rcases h with ⟨n, rfl⟩ | ⟨v, rfl⟩
  · exact pw_below_drewN hW n
  · exact hW.setCell (p := ⟨b, 0, none⟩) hB v
theorem LineMv.own {b : Nat} {W W' : World} (h : LineMv b W W') (hb : ∃ v, W.heap[b]? = some (.cells #[v] 9 (0, 0))) : ∃ v, W'.heap[b]? = some (.cells #[v] 9 (0, 0)) := by
  obtain ⟨u, hu⟩ := hb
  rcases h with ⟨n, rfl⟩ | ⟨v, rfl⟩
  · exact ⟨u, hu⟩
  · exact ⟨v, (blk_set hu 0 v).trans rfl⟩
theorem below_putObj {B l : Nat} {w W : World} (hW : Below B w W) (hw : B ≤ w.heap.size) (hl : B ≤ l) (o : Obj) : Below B w (W.putObj l o) := hW.grown (grownBy_putObj' W l o) (Nat.le_trans hw hW.size) (fun k e => by cases e; exact hl)
theorem blk_putObj {W : World} {c l : Nat} {o o' : Obj} (h : W.heap[c]? = some o) (hne : c ≠ l) : (W.putObj l o').heap[c]? = some o := (World.putObj_heap_other hne).trans h
theorem blk_alloc2 {W : World} {c : Nat} {o o1 o2 : Obj} (h : W.heap[c]? = some o) : ((W.alloc o1).alloc o2).heap[c]? = some o := blk_alloc (blk_alloc h _) _

theorem linesG_len (f : Nat) : ∀ (i : Nat) (l : List UInt8), (linesG f i l).length ≤ l.length := by
  induction f with
  | zero => intro i l; simp [linesG]
  | succ f ih =>
    intro i l
    by_cases h : l = []
    · subst h; rw [linesG_nil]; simp
    · rw [linesG_cons h, List.length_cons]
      have := ih (i + 1) (l.drop (lineN l + 1))
      rw [List.length_drop] at this
      have hp : 0 < l.length := List.length_pos_iff.2 h
      omega
theorem linesU_len (s : ByteArray) : (linesU s.data.toList).length ≤ s.size := by
  have := linesG_len s.data.toList.length 0 s.data.toList
  have h2 : s.data.toList.length = s.size := by simp
  unfold linesU; omega
set_option maxHeartbeats 1000000 in
set_option maxRecDepth 100000 in
theorem count_any (s : ByteArray) (w : World) (hs : s.size ≤ 140737488355328) : Calls Tryz.prog 39 #[.string s] w fun e w' => e = .returned (.int .i64 (linesU s.data.toList).length) ∧ Below w.heap.size w w' := by
  refine (callsIn_wide (n := 3)).1 ?_
  refine callsIn_of_wp_marks Tryz.func39 rfl trivial ?_ rfl
  simp only [Tryz.ntmps39, List.size_toArray, List.length_cons, List.length_nil, Nat.reduceAdd, Nat.reduceSub, Array.replicate_succ, Array.replicate_zero, List.push_toArray, List.append_toArray, List.nil_append, List.cons_append]
  gi_wp2_with (refine ⟨trivial, ?_⟩; gi_at_call 48; refine (callsIn_wide.2 (lines_any s _)).mono ?_; rintro e w' ⟨rfl, rfl⟩)
  have hc : ((w.alloc (.cells #[.int .i64 0] 3)).alloc (.cells #[.string s] 9)).heap[w.heap.size]? = some (.cells #[.int .i64 0] 3 (0, 0)) := blk_alloc (heap_alloc_last w _) _
  have hb : ((w.alloc (.cells #[.int .i64 0] 3)).alloc (.cells #[.string s] 9)).heap[w.heap.size + 1]? = some (.cells #[.string s] 9 (0, 0)) := by
    have := heap_alloc_last (w.alloc (.cells #[.int .i64 0] 3)) (.cells #[.string s] 9)
    rwa [World.size_alloc] at this
  have hB0 : Below w.heap.size w ((w.alloc (.cells #[.int .i64 0] 3)).alloc (.cells #[.string s] 9)) := ((Below.refl _ w).alloc (Nat.le_refl _) _).alloc (by simp) _
  obtain ⟨W0, hW0⟩ : ∃ W0, (w.alloc (.cells #[.int .i64 0] 3)).alloc (.cells #[.string s] 9) = W0 := ⟨_, rfl⟩
  have hsz : W0.heap.size = w.heap.size + 2 := by rw [← hW0]; simp
  try simp only [World.size_alloc]
  rw [hW0] at hc hb hB0 ⊢
  have Hsz := Lib.hid hsz
  clear hW0 hsz
  refine range_law (gf := 75) (lb := #[.pointer (some ⟨w.heap.size + 1, 0, none⟩)]) rfl (enters_of Tryz.func75 (by kernel_rfl) rfl) (lines_iter s (w.heap.size + 1) hs) (fun _ _ h => h.others) (fun _ => rfl)
    (fun pre W => (W.heap[w.heap.size]? = some (.cells #[.int .i64 pre.length] 3 (0, 0)) ∧ pre <+: linesU s.data.toList) ∧ (∃ v, W.heap[w.heap.size + 1]? = some (.cells #[v] 9 (0, 0))) ∧ Below w.heap.size w W)
    (fun _ _ _ => False)
    (fun pre W W' h hm => ⟨⟨hm.blk h.1.1 (by omega), h.1.2⟩, hm.own h.2.1, hm.below (by omega) h.2.2⟩) (fun pre W h => h.2.1)
    (fun pre W l o hl h => ⟨⟨blk_putObj h.1.1 (by have := Hsz.out; omega), h.1.2⟩, by obtain ⟨v, hv⟩ := h.2.1; exact ⟨v, blk_putObj hv (by have := Hsz.out; omega)⟩, below_putObj h.2.2 (Nat.le_refl _) (by have := Hsz.out; omega) _⟩)
    (fun _ _ _ _ _ _ h => h)
    (fun o o' => ⟨⟨blk_alloc2 hc, List.nil_prefix⟩, ⟨_, blk_alloc2 hb⟩, (hB0.alloc (by have := Hsz.out; omega) _).alloc (by have := Hsz.out; simp; omega) _⟩)
    (fun o o' => blk_alloc2 hb)
    (fun x => { tmps := #[.string s, undef, .int .i64 0, .pointer (some ⟨w.heap.size, 0, none⟩), .string s, .func (.func 75) #[] #[.pointer (some ⟨w.heap.size + 1, 0, none⟩)], .int .i64 x.1, .string (mkS x.2), undef, undef, undef], defers := [] }) ?assign ?body ?done ?stop
  case assign =>
    intro l x W K hK
    gi_wp2
    simpa using hK
  case body =>
    rintro l pre x W ⟨⟨hcn, hp⟩, hbx, hB⟩ hlt
    have hcell := (blk_cell hcn 0).trans rfl
    have hfr := blk_frozen hcn 0
    have hlen := hlt.length_le
    rw [List.length_append] at hlen
    have hll := linesU_len s
    gi_wp2
    refine ⟨KeepsOthers.setCell _ _ _, ⟨⟨(blk_set hcn 0 _).trans (by simp), hlt⟩, ?_, hB.setCell (p := ⟨w.heap.size, 0, none⟩) (Nat.le_refl _) _⟩⟩
    obtain ⟨v, hv⟩ := hbx
    exact ⟨v, blk_other hv (by omega) _⟩
  case done =>
    rintro D ys W hD rfl ⟨⟨hcn, _⟩, _, hB⟩ hK
    have hcell := (blk_cell hcn 0).trans rfl
    gi_wp2
    refine ⟨by simp, .inl ⟨_, _, rfl, run_takeDeferred hK, ?_⟩⟩
    exact ⟨_, results_tmp rfl _ _ _, rfl, below_putObj hB (Nat.le_refl _) (by have := Hsz.out; omega) _⟩
  case stop =>
    rintro D c pre W _ _ h _
    exact h.elim
end Go.Proofs.YtfeciafdioepiaaGreatDoor
set_option linter.unusedVariables false
set_option linter.unusedSimpArgs false
namespace Go.Proofs.YtfeciafdioepiaaGreatDoor
open Go.RowKit Go.Shelf Go.Proofs Go.Proofs.YtfeciafdioepiaaGreatDoorW.PrintWords Go.Proofs.YtfeciafdioepiaaGreatDoorW.PrintMore Go.Proofs.YtfeciafdioepiaaGreatDoor.PA
attribute [local go_sem] Oper.semAt_some

theorem ofNat_eq {n : Nat} {c : UInt8} (h : n = c.toNat) : UInt8.ofNat n = c := by
  subst h; simp
/-- What a decoded beginning looks like. -/
theorem decR_form {l : List UInt8} {v n : Nat} (h : decR l = some (v, n)) :
    minU n ≤ v ∧ v ≤ maxU n ∧ (v < 55296 ∨ 57343 < v) ∧ ∃ c r, l = c :: r ∧ sizeU c = n ∧ n ≤ l.length ∧ ((l.take n).drop 1).all isCont = true ∧ v = valL (modU n) (l.take n) := by
  cases l with
  | nil => simp [decR] at h
  | cons c r =>
    simp only [decR] at h
    split at h
    · cases h
    · rename_i hc
      split at h
      · rename_i hok
        injection h with h
        injection h with h1 h2
        unfold okAll okVal at hok
        simp only [Bool.and_eq_true, Bool.not_eq_true', decide_eq_true_iff, Bool.and_eq_false_iff, decide_eq_false_iff_not] at hok
        obtain ⟨hcont, ⟨hmin, hmax⟩, hsur⟩ := hok
        rw [h1] at hmin hmax hsur
        rw [h2] at hmin hmax hcont h1 hc
        exact ⟨hmin, hmax, by omega, c, r, rfl, h2, by omega, hcont, h1.symm⟩
      · cases h
theorem isCont_form {d : UInt8} (h : isCont d = true) : 128 ≤ d.toNat ∧ d.toNat ≤ 191 := by
  unfold isCont at h; rw [decide_eq_true_iff] at h; omega
theorem encode_any {l : List UInt8} {v n : Nat} (h : decR l = some (v, n)) (w : World) : Calls Tryz.prog 67 #[.int .i32 v] w fun e w' => e = .returned (.tuple #[.string (mkS (l.take n)), .int .i64 0]) ∧ Below w.heap.size w w' := by
  obtain ⟨hmin, hmax, hsur, c, r, rfl, hs, hn, hcont, hv⟩ := decR_form h
  have hsz := (sizeU_of c).1
  rw [hs] at hsz
  rcases hsz with e | ⟨e, h1⟩ | ⟨e, h1, h2⟩ | ⟨e, h1, h2⟩ | ⟨e, h1, h2⟩
  · subst e
    have := decR_pos h
    omega
  · subst e
    have hl : (c :: r).take 1 = encL1 v := by
      have hv' : v = c.toNat % 128 := hv
      show [c] = [UInt8.ofNat v]
      rw [ofNat_eq (c := c) (by omega)]
    rw [hl]; exact encode_1 v w hmin hmax hsur
  · subst e
    cases r with
    | nil => simp at hn
    | cons d r =>
      have hd : isCont d = true := by simpa using hcont
      have hd := isCont_form hd
      have hv' : v = c.toNat % 32 * 64 + d.toNat % 64 := hv
      have hl : (c :: d :: r).take 2 = encL2 v := by
        show [c, d] = [UInt8.ofNat (192 + v / 64), UInt8.ofNat (128 + v % 64)]
        rw [ofNat_eq (c := c) (by omega), ofNat_eq (c := d) (by omega)]
      rw [hl]; exact encode_2 v w hmin hmax hsur
  · subst e
    cases r with
    | nil => simp at hn
    | cons d r =>
      cases r with
      | nil => simp at hn
      | cons d2 r =>
        have hd : isCont d = true ∧ isCont d2 = true := by simpa using hcont
        have hd1 := isCont_form hd.1
        have hd2 := isCont_form hd.2
        have hv' : v = (c.toNat % 16 * 64 + d.toNat % 64) * 64 + d2.toNat % 64 := hv
        have hl : (c :: d :: d2 :: r).take 3 = encL3 v := by
          show [c, d, d2] = [UInt8.ofNat (224 + v / 4096), UInt8.ofNat (128 + v / 64 % 64), UInt8.ofNat (128 + v % 64)]
          rw [ofNat_eq (c := c) (by omega), ofNat_eq (c := d) (by omega), ofNat_eq (c := d2) (by omega)]
        rw [hl]; exact encode_3 v w hmin hmax hsur
  · subst e
    cases r with
    | nil => simp at hn
    | cons d r =>
      cases r with
      | nil => simp at hn
      | cons d2 r =>
        cases r with
        | nil => simp at hn
        | cons d3 r =>
          have hd : isCont d = true ∧ isCont d2 = true ∧ isCont d3 = true := by simpa using hcont
          have hd1 := isCont_form hd.1
          have hd2 := isCont_form hd.2.1
          have hd3 := isCont_form hd.2.2
          have hv' : v = ((c.toNat % 8 * 64 + d.toNat % 64) * 64 + d2.toNat % 64) * 64 + d3.toNat % 64 := hv
          have hl : (c :: d :: d2 :: d3 :: r).take 4 = encL4 v := by
            show [c, d, d2, d3] = [UInt8.ofNat (240 + v / 262144), UInt8.ofNat (128 + v / 4096 % 64), UInt8.ofNat (128 + v / 64 % 64), UInt8.ofNat (128 + v % 64)]
            rw [ofNat_eq (c := c) (by omega), ofNat_eq (c := d) (by omega), ofNat_eq (c := d2) (by omega), ofNat_eq (c := d3) (by omega)]
          rw [hl]; exact encode_4 v w hmin hmax hsur
/-- The bytes of one code point decode to it. -/
theorem decR_take {l : List UInt8} {v n : Nat} (h : decR l = some (v, n)) : decR (l.take n) = some (v, n) := by
  obtain ⟨hmin, hmax, hsur, c, r, rfl, hs, hn, hcont, hv⟩ := decR_form h
  have hp := decR_pos h
  obtain ⟨m, rfl⟩ : ∃ m, n = m + 1 := ⟨n - 1, by omega⟩
  have ht : ((c :: r).take (m + 1)).take (m + 1) = (c :: r).take (m + 1) := by rw [List.take_take, Nat.min_self]
  rw [List.take_succ_cons] at ht hv hcont ⊢
  simp only [decR]
  rw [hs, if_neg (by rw [List.length_cons, List.length_take]; simp at hn; omega), ht]
  have hok : okAll (m + 1) (c :: r.take m) = true := by
    unfold okAll okVal
    rw [hcont, ← hv]
    simp only [Bool.and_eq_true, Bool.not_eq_true', decide_eq_true_iff, Bool.and_eq_false_iff, decide_eq_false_iff_not]
    exact ⟨trivial, ⟨hmin, hmax⟩, by omega⟩
  rw [if_pos hok, ← hv]
theorem runesU_one {l : List UInt8} {v n : Nat} (h : decR l = some (v, n)) : runesU (l.take n) = ([(0, v)], none) := by
  have hp := decR_pos h
  have ht := decR_take h
  have hlen : (l.take n).length = n := by rw [List.length_take]; omega
  obtain ⟨m, rfl⟩ : ∃ m, n = m + 1 := ⟨n - 1, by omega⟩
  unfold runesU
  rw [hlen, runesG_some ht, List.drop_eq_nil_of_le (by omega), runesG_nil]

def ctrlU (v : Nat) : Bool := decide (v ≤ 31) || (decide (127 ≤ v) && decide (v ≤ 159)) || v == 8232 || v == 8233
theorem controlF (v : Nat) : utf8_control.f 1 (v : Int) = some (ctrlU v) := by
  unfold utf8_control.f ctrlU
  by_cases h1 : v ≤ 31
  · rw [if_pos (by omega), decide_eq_true h1]; rfl
  · rw [if_neg (by omega), decide_eq_false h1]
    have e1 : ((v : Int) = 8232) ↔ v = 8232 := by omega
    have e2 : ((v : Int) = 8233) ↔ v = 8233 := by omega
    have key : ∀ q : Bool, utf8_control.j0 1 (v : Int) q = some (q || v == 8232 || v == 8233) := by
      intro q
      simp only [utf8_control.j0]
      cases q
      · rw [if_neg (by simp)]
        by_cases h8 : v = 8232
        · rw [if_pos (e1.2 h8)]; simp [h8]
        · rw [if_neg (fun h => h8 (e1.1 h))]
          by_cases h9 : v = 8233
          · rw [if_pos (e2.2 h9)]; simp [h9]
          · rw [if_neg (fun h => h9 (e2.1 h))]; simp [h8, h9]
      · rw [if_pos rfl]; rfl
    by_cases h2 : 127 ≤ v
    · rw [if_pos (by omega), key, decide_eq_true h2]
      have : decide ((v : Int) ≤ 159) = decide (v ≤ 159) := by rw [decide_eq_decide]; omega
      rw [this]; simp
    · rw [if_neg (by omega), key, decide_eq_false h2]; simp
theorem blkB {B : Nat} {w W : World} (h : Below B w W) {c : Nat} {o : Obj} (hc : w.heap[c]? = some o) (hB : c < B) : W.heap[c]? = some o := (h.block c hB).trans hc

theorem keeps_drewN (W : World) (m : Nat) : KeepsOthers W (W.drewN m) := ⟨Nat.le_refl _, fun _ _ h _ => h⟩
def printU (l : List UInt8) : Bool := validU l && (runesU l).1.all fun x => !ctrlU x.2
set_option maxHeartbeats 1000000 in
set_option maxRecDepth 100000 in
theorem uprintable_any (s : ByteArray) (w : World) (hs : s.size ≤ 140737488355328) : Calls Tryz.prog 68 #[.string s] w fun e w' => e = .returned (.bool (printU s.data.toList)) ∧ Below w.heap.size w w' := by
  have hv := fun w => valid_any s w hs
  unfold printU
  cases hval : validU s.data.toList
  · rw [hval] at hv
    have Hv := Lib.hid hv
    clear hv hval
    rw [Bool.false_and]
    go_enter Tryz.func68, Tryz.ntmps68
    have hres := heap_alloc_last w (.cells #[.bool false] 4)
    go_wp2_with (go_at_call 95; refine (Hv.out _).mono ?_; rintro e w1 ⟨rfl, hb⟩; have HB := Aside0.mk hb; have hr1 := blkB hb hres (by simp); have hcell := (blk_cell hr1 0).trans rfl; have hfr := blk_frozen hr1 0; clear hb)
    have hc := World.cell?_setCell_same' w1 ⟨w.heap.size, 0, none⟩ (.bool false) (by rw [hcell]; rfl)
    have hB1 : Below w.heap.size w w1 := ((Below.refl _ w).alloc (Nat.le_refl _) _).trans (HB.out.mono (by simp))
    exact bodyPost_ret (v := .bool false) (by simp [results, Tryz.results68, go_sem, hc]) rfl ⟨rfl, hB1.setCell (p := ⟨w.heap.size, 0, none⟩) (Nat.le_refl _) _⟩
  · rw [hval] at hv
    have Hv := Lib.hid hv
    clear hv hval
    rw [Bool.true_and]
    refine (callsIn_wide (n := 3)).1 ?_
    refine callsIn_of_wp_marks Tryz.func68 rfl trivial ?_ rfl
    simp only [Tryz.ntmps68, List.size_toArray, List.length_cons, List.length_nil, Nat.reduceAdd, Nat.reduceSub, Array.replicate_succ, Array.replicate_zero, List.push_toArray, List.append_toArray, List.nil_append, List.cons_append]
    have hres := heap_alloc_last w (.cells #[.bool false] 4)
    gi_wp2_with (first | (refine ⟨trivial, ?_⟩; gi_at_call 95; refine (callsIn_wide.2 (Hv.out _)).mono ?_; rintro e w1 ⟨rfl, hb⟩; have HB := Aside0.mk hb; have hr1 := blkB hb hres (by simp); clear hb) | (refine ⟨trivial, ?_⟩; gi_at_call 66; refine (callsIn_wide.2 (runes_any s _)).mono ?_; rintro e w' ⟨rfl, rfl⟩))
    have hB1 : Below w.heap.size w w1 := ((Below.refl _ w).alloc (Nat.le_refl _) _).trans (HB.out.mono (by simp))
    have hlt1 : w.heap.size < w1.heap.size := (Array.getElem?_eq_some_iff.1 hr1).1
    have hc : (w1.alloc (.cells #[.string s] 9)).heap[w.heap.size]? = some (.cells #[.bool false] 4 (0, 0)) := blk_alloc hr1 _
    have hb := heap_alloc_last w1 (.cells #[.string s] 9)
    obtain ⟨W0, hW0⟩ : ∃ W0, w1.alloc (.cells #[.string s] 9) = W0 := ⟨_, rfl⟩
    have hsz : W0.heap.size = w1.heap.size + 1 := by rw [← hW0]; simp
    have hB0 : Below w.heap.size w W0 := by rw [← hW0]; exact hB1.alloc (by omega) _
    rw [hW0] at hc hb ⊢
    have Hsz := Lib.hid hsz
    have Hlt := Lib.hid hlt1
    clear hW0 hsz hlt1
    refine range_law (gf := 91) (lb := #[.pointer (some ⟨w1.heap.size, 0, none⟩)]) rfl (enters_of Tryz.func91 (by kernel_rfl) rfl) (runes_iter s w1.heap.size hs) (fun _ _ h => ⟨h.size, fun k o hk _ => blkB h hk (Array.getElem?_eq_some_iff.1 hk).1⟩) (fun _ => rfl)
      (fun pre W => (W.heap[w.heap.size]? = some (.cells #[.bool false] 4 (0, 0)) ∧ (pre.all fun x => !ctrlU x.2) = true) ∧ W.heap[w1.heap.size]? = some (.cells #[.string s] 9 (0, 0)) ∧ Below w.heap.size w W)
      (fun c pre W => c = .ret ∧ (pre.all fun x => !ctrlU x.2) = false ∧ W.heap[w.heap.size]? = some (.cells #[.bool false] 4 (0, 0)) ∧ Below w.heap.size w W)
      (fun pre W W' h hm => ⟨⟨blkB hm h.1.1 (Array.getElem?_eq_some_iff.1 h.1.1).1, h.1.2⟩, blkB hm h.2.1 (Array.getElem?_eq_some_iff.1 h.2.1).1, h.2.2.trans (hm.mono h.2.2.size)⟩)
      (fun pre W h => (blk_cell h.2.1 0).trans rfl)
      (fun pre W l o hl h => ⟨⟨blk_putObj h.1.1 (by have := Hsz.out; have := Hlt.out; omega), h.1.2⟩, blk_putObj h.2.1 (by have := Hsz.out; omega), below_putObj h.2.2 (Nat.le_refl _) (by have := Hsz.out; have := Hlt.out; omega) _⟩)
      (fun c pre W l o hl h => ⟨h.1, h.2.1, blk_putObj h.2.2.1 (by have := Hsz.out; have := Hlt.out; omega), below_putObj h.2.2.2 (Nat.le_refl _) (by have := Hsz.out; have := Hlt.out; omega) _⟩)
      (fun o o' => ⟨⟨blk_alloc2 hc, rfl⟩, blk_alloc2 hb, (hB0.alloc (by have := Hsz.out; have := Hlt.out; omega) _).alloc (by have := Hsz.out; have := Hlt.out; simp; omega) _⟩)
      (fun o o' => trivial)
      (fun x => { tmps := #[.string s, undef, .pointer (some ⟨w.heap.size, 0, none⟩), undef, .int .i32 x.2, .string s, .bool true, .bool false, .string s, .func (.func 91) #[] #[.pointer (some ⟨w1.heap.size, 0, none⟩)], .int .i64 x.1, .int .i32 x.2, undef, undef], defers := [] }) ?assign ?body ?done ?stop
    case assign =>
      intro l x W K hK
      gi_wp2
      exact hK
    case body =>
      rintro l pre x W ⟨⟨hcn, hp⟩, hbx, hB⟩ hlt
      have hcell := (blk_cell hcn 0).trans rfl
      have hfr := blk_frozen hcn 0
      have hall : ((pre ++ [x]).all fun x => !ctrlU x.2) = !ctrlU x.2 := by rw [List.all_append, hp]; simp
      have Hall := Lib.hid hall
      have hcf := controlF x.2
      clear hall hp
      cases hcx : ctrlU x.2
      · rw [hcx] at hcf
        have Hcf := Lib.hid hcf
        have Hcx := Lib.hid hcx
        clear hcf hcx
        gi_wp2_with (refine ⟨trivial, ?_⟩; gi_at_call 96; refine (CallsIn.inRound l (callsIn_wide.2 (utf8_control.calls _ _ _ _ Hcf.out))).mono ?_; rintro e w2 ⟨rfl, ⟨m, rfl⟩⟩)
        exact ⟨keeps_drewN W m, ⟨⟨hcn, by rw [Hall.out, Hcx.out]; rfl⟩, hbx, pw_below_drewN hB m⟩⟩
      · rw [hcx] at hcf
        have Hcf := Lib.hid hcf
        have Hcx := Lib.hid hcx
        clear hcf hcx
        gi_wp2_with (refine ⟨trivial, ?_⟩; gi_at_call 96; refine (CallsIn.inRound l (callsIn_wide.2 (utf8_control.calls _ _ _ _ Hcf.out))).mono ?_; rintro e w2 ⟨rfl, ⟨m, rfl⟩⟩)
        exact ⟨(keeps_drewN W m).trans (KeepsOthers.setCell _ _ _), rfl, by rw [Hall.out, Hcx.out]; rfl, (blk_set (blk_drewN hcn m) 0 _).trans rfl, (pw_below_drewN hB m).setCell (p := ⟨w.heap.size, 0, none⟩) (Nat.le_refl _) _⟩
    case done =>
      rintro D ys W hD rfl ⟨⟨hcn, hp⟩, _, hB⟩ hK
      have hcell := (blk_cell hcn 0).trans rfl
      have hfr := blk_frozen hcn 0
      gi_wp2
      have hK' := (KeepsOthers.setCell W ⟨w.heap.size, 0, none⟩ (.bool true)).same D _ hK rfl
      have hDne : w.heap.size ≠ D := by have := Hsz.out; have := Hlt.out; omega
      have hcb : ((W.setCell ⟨w.heap.size, 0, none⟩ (.bool true)).putObj D (.deferred none)).heap[w.heap.size]? = some (.cells #[.bool true] 4 (0, 0)) := blk_putObj ((blk_set hcn 0 (.bool true)).trans rfl) hDne
      have hc5 := (blk_cell hcb 0).trans rfl
      refine ⟨by simp, .inl ⟨_, _, rfl, run_takeDeferred hK', ?_⟩⟩
      refine ⟨.bool true, ?_, by rw [hp], below_putObj (hB.setCell (p := ⟨w.heap.size, 0, none⟩) (Nat.le_refl _) _) (Nat.le_refl _) (by have := Hsz.out; have := Hlt.out; omega) _⟩
      simp [results, Tryz.f68, go_sem, hc5]
    case stop =>
      rintro D c pre W hD hpre ⟨rfl, hp, hcn, hB⟩ hK
      have hcell := (blk_cell hcn 0).trans rfl
      gi_wp2
      have hDne : w.heap.size ≠ D := by have := Hsz.out; have := Hlt.out; omega
      have hcb : (W.putObj D (.deferred none)).heap[w.heap.size]? = some (.cells #[.bool false] 4 (0, 0)) := blk_putObj hcn hDne
      have hc5 := (blk_cell hcb 0).trans rfl
      refine ⟨by simp, .inl ⟨_, _, rfl, run_takeDeferred hK, ?_⟩⟩
      refine ⟨.bool false, ?_, ?_, below_putObj hB (Nat.le_refl _) (by have := Hsz.out; have := Hlt.out; omega) _⟩
      · simp [results, Tryz.f68, go_sem, hc5]
      · obtain ⟨r, hr⟩ := hpre
        rw [← hr, List.all_append, hp, Bool.false_and]
end Go.Proofs.YtfeciafdioepiaaGreatDoor
set_option linter.unusedVariables false
set_option linter.unusedSimpArgs false
namespace Go.Proofs.YtfeciafdioepiaaGreatDoor
open Go.RowKit Go.Shelf Go.Proofs Go.Proofs.YtfeciafdioepiaaGreatDoorW.PrintWords Go.Proofs.YtfeciafdioepiaaGreatDoorW.PrintMore Go.Proofs.YtfeciafdioepiaaGreatDoor.PA
attribute [local go_sem] Oper.semAt_some

/-- A code point that a line may not have. -/
def badV (v : Nat) : Bool := v != 9 && ctrlU v
/-- The offset of the first byte of a line that is not permitted, or -1. -/
def badU (l : List UInt8) : Int := match (runesU l).1.find? (fun x => badV x.2) with
  | some x => x.1
  | none => match (runesU l).2 with
    | some p => p
    | none => -1
theorem runesG_mem (l : List UInt8) (f : Nat) : ∀ k, ∀ x ∈ (runesG f k (l.drop k)).1, ∃ n, decR (l.drop x.1) = some (x.2, n) := by
  induction f with
  | zero => intro k x hx; simp [runesG] at hx
  | succ f ih =>
    intro k x hx
    cases hd : decR (l.drop k) with
    | none =>
      by_cases h0 : l.drop k = []
      · rw [h0, runesG_nil] at hx; simp at hx
      · rw [runesG_none h0 hd] at hx; simp at hx
    | some p =>
      obtain ⟨v, n⟩ := p
      rw [runesG_some hd, List.drop_drop] at hx
      rcases List.mem_cons.1 hx with rfl | hx
      · exact ⟨n, hd⟩
      · exact ih (k + n) x hx
theorem runesU_mem {l : List UInt8} {x : Nat × Nat} (h : x ∈ (runesU l).1) : ∃ n, decR (l.drop x.1) = some (x.2, n) := by
  refine runesG_mem l l.length 0 x ?_
  simpa [runesU] using h

theorem keeps_below {W W' : World} (h : Below W.heap.size W W') : KeepsOthers W W' := ⟨h.size, fun k o hk _ => blkB h hk (Array.getElem?_eq_some_iff.1 hk).1⟩
theorem blk_later {W W' : World} (h : Below W.heap.size W W') {c : Nat} {o : Obj} (hc : W.heap[c]? = some o) : W'.heap[c]? = some o := blkB h hc (Array.getElem?_eq_some_iff.1 hc).1
theorem below_later {B : Nat} {w W W' : World} (hB : Below B w W) (h : Below W.heap.size W W') (hw : B ≤ w.heap.size) : Below B w W' := hB.trans (h.mono (Nat.le_trans hw hB.size))
theorem badU_some {l : List UInt8} {x : Nat × Nat} {pre : List (Nat × Nat)} (h : pre <+: (runesU l).1) (hp : pre.find? (fun x => badV x.2) = some x) : badU l = x.1 := by
  obtain ⟨r, hr⟩ := h
  unfold badU
  rw [← hr, List.find?_append, hp]; rfl
set_option maxHeartbeats 1000000 in
set_option maxRecDepth 100000 in
theorem badByte_any (s : ByteArray) (w : World) (hs : s.size ≤ 140737488355328) : Calls Tryz.prog 42 #[.string s] w fun e w' => e = .returned (.int .i64 (badU s.data.toList)) ∧ Below w.heap.size w w' := by
  have hlen : s.data.toList.length = s.size := by simp
  have Hlen := Lib.hid hlen
  clear hlen
  refine (callsIn_wide (n := 3)).1 ?_
  refine callsIn_of_wp_marks Tryz.func42 rfl trivial ?_ rfl
  simp only [Tryz.ntmps42, List.size_toArray, List.length_cons, List.length_nil, Nat.reduceAdd, Nat.reduceSub, Array.replicate_succ, Array.replicate_zero, List.push_toArray, List.append_toArray, List.nil_append, List.cons_append]
  have hres := heap_alloc_last w (.cells #[.int .i64 0] 3)
  gi_wp2_with (refine ⟨trivial, ?_⟩; gi_at_call 66; refine (callsIn_wide.2 (runes_any s _)).mono ?_; rintro e w' ⟨rfl, rfl⟩)
  obtain ⟨w1, hw1⟩ : ∃ w1, w.alloc (.cells #[.int .i64 0] 3) = w1 := ⟨_, rfl⟩
  have hB1 : Below w.heap.size w w1 := by rw [← hw1]; exact (Below.refl _ w).alloc (Nat.le_refl _) _
  have hlt1 : w1.heap.size = w.heap.size + 1 := by rw [← hw1]; simp
  rw [hw1] at hres
  have hc : (w1.alloc (.cells #[.string s] 9)).heap[w.heap.size]? = some (.cells #[.int .i64 0] 3 (0, 0)) := blk_alloc hres _
  have hb := heap_alloc_last w1 (.cells #[.string s] 9)
  obtain ⟨W0, hW0⟩ : ∃ W0, w1.alloc (.cells #[.string s] 9) = W0 := ⟨_, rfl⟩
  have hsz : W0.heap.size = w1.heap.size + 1 := by rw [← hW0]; simp
  have hB0 : Below w.heap.size w W0 := by rw [← hW0]; exact hB1.alloc (by omega) _
  try simp only [World.size_alloc]
  rw [hw1, hW0]
  rw [hW0] at hc hb
  rw [hlt1] at hb hsz
  have Hsz := Lib.hid hsz
  clear hW0 hsz hw1 hB1 hres
  refine range_law (gf := 91) (lb := #[.pointer (some ⟨w.heap.size + 1, 0, none⟩)]) rfl (enters_of Tryz.func91 (by kernel_rfl) rfl) (runes_iter s (w.heap.size + 1) hs) (fun _ _ h => ⟨h.size, fun k o hk _ => blkB h hk (Array.getElem?_eq_some_iff.1 hk).1⟩) (fun _ => rfl)
    (fun pre W => (W.heap[w.heap.size]? = some (.cells #[.int .i64 0] 3 (0, 0)) ∧ pre.find? (fun x => badV x.2) = none) ∧ W.heap[w.heap.size + 1]? = some (.cells #[.string s] 9 (0, 0)) ∧ Below w.heap.size w W)
    (fun c pre W => c = .ret ∧ (∃ x, pre.find? (fun x => badV x.2) = some x ∧ W.heap[w.heap.size]? = some (.cells #[.int .i64 x.1] 3 (0, 0))) ∧ Below w.heap.size w W)
    (fun pre W W' h hm => ⟨⟨blkB hm h.1.1 (Array.getElem?_eq_some_iff.1 h.1.1).1, h.1.2⟩, blkB hm h.2.1 (Array.getElem?_eq_some_iff.1 h.2.1).1, h.2.2.trans (hm.mono h.2.2.size)⟩)
    (fun pre W h => (blk_cell h.2.1 0).trans rfl)
    (fun pre W l o hl h => ⟨⟨blk_putObj h.1.1 (by have := Hsz.out; omega), h.1.2⟩, blk_putObj h.2.1 (by have := Hsz.out; omega), below_putObj h.2.2 (Nat.le_refl _) (by have := Hsz.out; omega) _⟩)
    (fun c pre W l o hl h => by obtain ⟨h1, ⟨x, h2, h3⟩, h4⟩ := h; exact ⟨h1, ⟨x, h2, blk_putObj h3 (by have := Hsz.out; omega)⟩, below_putObj h4 (Nat.le_refl _) (by have := Hsz.out; omega) _⟩)
    (fun o o' => ⟨⟨blk_alloc2 hc, rfl⟩, blk_alloc2 hb, (hB0.alloc (by have := Hsz.out; omega) _).alloc (by have := Hsz.out; simp; omega) _⟩)
    (fun o o' => trivial)
    (fun x => { tmps := #[.string s, undef, .pointer (some ⟨w.heap.size, 0, none⟩), .int .i64 x.1, .int .i32 x.2, undef, undef, undef, undef, .string s, .func (.func 91) #[] #[.pointer (some ⟨w.heap.size + 1, 0, none⟩)], .int .i64 x.1, .int .i32 x.2, undef, undef, undef, undef, undef, undef, undef, undef, undef, undef, undef, undef, undef, undef, undef, undef, undef, undef, undef, undef, undef], defers := [] }) ?assign ?body ?done ?stop
  case assign =>
    intro l x W K hK
    gi_wp2
    exact hK
  case body =>
    rintro l pre x W ⟨⟨hcn, hp⟩, hbx, hB⟩ hlt
    have hcell := (blk_cell hcn 0).trans rfl
    have hfr := blk_frozen hcn 0
    obtain ⟨n, hd⟩ := runesU_mem (l := s.data.toList) (x := x) (by obtain ⟨r, hr⟩ := hlt; rw [← hr]; simp)
    have henc := encode_any hd
    have hone := runesU_one hd
    have hpn := decR_pos hd
    have hsz1 : (mkS ((s.data.toList.drop x.1).take n)).size ≤ 140737488355328 := by rw [mkS_size, List.length_take]; omega
    have hpr := fun w => uprintable_any (mkS ((s.data.toList.drop x.1).take n)) w hsz1
    have hpv : printU ((s.data.toList.drop x.1).take n) = !ctrlU x.2 := by unfold printU validU; rw [hone]; simp
    simp only [mkS_toList] at hpr
    rw [hpv] at hpr
    have hfind : (pre ++ [x]).find? (fun x => badV x.2) = if badV x.2 = true then some x else none := by rw [List.find?_append, hp]; simp [List.find?_cons]; split <;> simp_all
    have Hfind := Lib.hid hfind
    have Henc := Lib.hid henc
    have Hpr := Lib.hid hpr
    clear hfind henc hpr hone hd hpv hsz1 hp
    generalize mkS ((s.data.toList.drop x.1).take n) = c at *
    by_cases h9 : x.2 = 9
    · have h9' : ((x.2 : Int) != 9) = false := by rw [bne_eq_false_iff_eq]; omega
      have hbv : badV x.2 = false := by unfold badV; rw [h9]; rfl
      have Hbv := Lib.hid hbv
      clear hbv h9
      gi_wp2_with (first | (refine ⟨trivial, ?_⟩; gi_at_call 67; refine (CallsIn.inRound l (callsIn_wide.2 (Henc.out _))).mono ?_; rintro e w2 ⟨rfl, hb2⟩; have HB2 := Aside0.mk hb2; clear hb2))
      refine ⟨trivial, ?_⟩
      gi_wp2
      exact ⟨keeps_below HB2.out, ⟨⟨blk_later HB2.out hcn, by rw [Hfind.out, if_neg (by rw [Hbv.out]; simp)]⟩, blk_later HB2.out hbx, below_later hB HB2.out (Nat.le_refl _)⟩⟩
    · have h9' : ((x.2 : Int) != 9) = true := by rw [bne_iff_ne]; omega
      cases hcx : ctrlU x.2
      · rw [hcx] at Hpr
        have hbv : badV x.2 = false := by unfold badV; rw [hcx]; simp
        have Hbv := Lib.hid hbv
        clear hbv h9 hcx
        gi_wp2_with (first | (refine ⟨trivial, ?_⟩; gi_at_call 67; refine (CallsIn.inRound l (callsIn_wide.2 (Henc.out _))).mono ?_; rintro e w2 ⟨rfl, hb2⟩; have HB2 := Aside0.mk hb2; clear hb2) | (refine ⟨trivial, ?_⟩; gi_at_call 68; refine (CallsIn.inRound l (callsIn_wide.2 (Hpr.out _))).mono ?_; rintro e w3 ⟨rfl, hb3⟩; have HB3 := Aside0.mk hb3; clear hb3))
        exact ⟨(keeps_below HB2.out).trans (keeps_below HB3.out), ⟨⟨blk_later HB3.out (blk_later HB2.out hcn), by rw [Hfind.out, if_neg (by rw [Hbv.out]; simp)]⟩, blk_later HB3.out (blk_later HB2.out hbx), below_later (below_later hB HB2.out (Nat.le_refl _)) HB3.out (Nat.le_refl _)⟩⟩
      · rw [hcx] at Hpr
        have hbv : badV x.2 = true := by unfold badV; rw [hcx]; simp [h9]
        have Hbv := Lib.hid hbv
        clear hbv h9 hcx
        gi_wp2_with (first | (refine ⟨trivial, ?_⟩; gi_at_call 67; refine (CallsIn.inRound l (callsIn_wide.2 (Henc.out _))).mono ?_; rintro e w2 ⟨rfl, hb2⟩; have HB2 := Aside0.mk hb2; have hcn2 := blkB hb2 hcn (Array.getElem?_eq_some_iff.1 hcn).1; clear hb2) | (refine ⟨trivial, ?_⟩; gi_at_call 68; refine (CallsIn.inRound l (callsIn_wide.2 (Hpr.out _))).mono ?_; rintro e w3 ⟨rfl, hb3⟩; have HB3 := Aside0.mk hb3; have hcn3 := blkB hb3 hcn2 (Array.getElem?_eq_some_iff.1 hcn2).1; have hcell3 := (blk_cell hcn3 0).trans rfl; have hfr3 := blk_frozen hcn3 0; clear hb3))
        exact ⟨((keeps_below HB2.out).trans (keeps_below HB3.out)).trans (KeepsOthers.setCell _ _ _), rfl, ⟨x, by rw [Hfind.out, if_pos Hbv.out], (blk_set hcn3 0 _).trans rfl⟩, (below_later (below_later hB HB2.out (Nat.le_refl _)) HB3.out (Nat.le_refl _)).setCell (p := ⟨w.heap.size, 0, none⟩) (Nat.le_refl _) _⟩
  case done =>
    rintro D ys W hD rfl ⟨⟨hcn, hp⟩, _, hB⟩ hK
    have hck := check_any s W hs
    unfold CheckPost at hck
    have hbad : badU s.data.toList = match (runesU s.data.toList).2 with | some p => (p : Int) | none => -1 := by unfold badU; rw [hp]
    have Hbad := Lib.hid hbad
    clear hbad hp
    have hDne : w.heap.size ≠ D := by have := Hsz.out; omega
    have hlD : D < W.heap.size := (Array.getElem?_eq_some_iff.1 hK).1
    generalize hr2 : (runesU s.data.toList).2 = r2 at *
    clear hr2
    cases r2 with
    | none =>
      have Hck := Lib.hid hck
      clear hck
      gi_wp2_with (refine ⟨trivial, ?_⟩; gi_at_call 69; refine (callsIn_wide.2 Hck.out).mono ?_; rintro e w2 ⟨rfl, hb2⟩; have HB2 := Aside0.mk hb2; have hcn2 := blk_later hb2 hcn; have hcell2 := (blk_cell hcn2 0).trans rfl; have hfr2 := blk_frozen hcn2 0; clear hb2)
      have hK2 := (KeepsOthers.setCell w2 ⟨w.heap.size, 0, none⟩ (.int .i64 (-1))).same D _ (blk_later HB2.out hK) rfl
      have hcb : ((w2.setCell ⟨w.heap.size, 0, none⟩ (.int .i64 (-1))).putObj D (.deferred none)).heap[w.heap.size]? = some (.cells #[.int .i64 (-1)] 3 (0, 0)) := blk_putObj ((blk_set hcn2 0 (.int .i64 (-1))).trans rfl) hDne
      have hc5 := (blk_cell hcb 0).trans rfl
      refine ⟨by simp, .inl ⟨_, _, rfl, run_takeDeferred hK2, ?_⟩⟩
      refine ⟨.int .i64 (-1), ?_, by rw [Hbad.out], below_putObj ((below_later hB HB2.out (Nat.le_refl _)).setCell (p := ⟨w.heap.size, 0, none⟩) (Nat.le_refl _) _) (Nat.le_refl _) (by have := Hsz.out; omega) _⟩
      simp [results, Tryz.f42, go_sem, hc5]
    | some p =>
      have Hck := Lib.hid hck
      clear hck
      gi_wp2_with (refine ⟨trivial, ?_⟩; gi_at_call 69; refine (callsIn_wide.2 Hck.out).mono ?_; rintro e w2 ⟨⟨c, hc0, rfl⟩, hb2⟩; have HB2 := Aside0.mk hb2; have hcn2 := blk_later hb2 hcn; have hcell2 := (blk_cell hcn2 0).trans rfl; have hfr2 := blk_frozen hcn2 0; have hcb0 : (c != 0) = true := bne_iff_ne.2 hc0; clear hb2)
      have hK2 := (KeepsOthers.setCell w2 ⟨w.heap.size, 0, none⟩ (.int .i64 p)).same D _ (blk_later HB2.out hK) rfl
      have hcb : ((w2.setCell ⟨w.heap.size, 0, none⟩ (.int .i64 p)).putObj D (.deferred none)).heap[w.heap.size]? = some (.cells #[.int .i64 p] 3 (0, 0)) := blk_putObj ((blk_set hcn2 0 (.int .i64 p)).trans rfl) hDne
      have hc5 := (blk_cell hcb 0).trans rfl
      refine ⟨by simp, .inl ⟨_, _, rfl, run_takeDeferred hK2, ?_⟩⟩
      refine ⟨.int .i64 p, ?_, by rw [Hbad.out], below_putObj ((below_later hB HB2.out (Nat.le_refl _)).setCell (p := ⟨w.heap.size, 0, none⟩) (Nat.le_refl _) _) (Nat.le_refl _) (by have := Hsz.out; omega) _⟩
      simp [results, Tryz.f42, go_sem, hc5]
  case stop =>
    rintro D c pre W hD hpre ⟨rfl, ⟨x, hp, hcn⟩, hB⟩ hK
    have hDne : w.heap.size ≠ D := by have := Hsz.out; omega
    have hbu := badU_some hpre hp
    have Hbu := Lib.hid hbu
    clear hbu hp
    gi_wp2
    have hcb : (W.putObj D (.deferred none)).heap[w.heap.size]? = some (.cells #[.int .i64 x.1] 3 (0, 0)) := blk_putObj hcn hDne
    have hc5 := (blk_cell hcb 0).trans rfl
    refine ⟨by simp, .inl ⟨_, _, rfl, run_takeDeferred hK, ?_⟩⟩
    refine ⟨.int .i64 x.1, ?_, by rw [Hbu.out], below_putObj hB (Nat.le_refl _) (by have := Hsz.out; omega) _⟩
    simp [results, Tryz.f42, go_sem, hc5]
end Go.Proofs.YtfeciafdioepiaaGreatDoor
namespace Go.Proofs.YtfeciafdioepiaaGreatDoor.PB
open Go.Proofs.YtfeciafdioepiaaGreatDoor.PA
open Go.Proofs.YtfeciafdioepiaaGreatDoor
open Go.RowKit Go.Proofs.YtfeciafdioepiaaGreatDoorW.PrintWords Go.Proofs.YtfeciafdioepiaaGreatDoorW.PrintLast Go.Proofs.YtfeciafdioepiaaGreatDoorW.PrintMore
attribute [local go_sem] max2_int min2_int max_two min_two max_three min_three max_four min_four   -- for this text's walks alone
set_option linter.unusedVariables false
set_option linter.unusedSimpArgs false

/-! ### field_Field_Check: function 89 -/
def field_Field_Check.f (k : Nat) (a0_0 : ByteArray) (a0_1 : ByteArray) : Option (Int) := (GV.Words.f a0_1).bind fun t102 => ((PA.field_ValidName.f k a0_0).bind fun t105 => (if t105 = true then ((GV.Printable.f a0_1).bind fun t106 => (if t106 ≥ 0 then (some 6) else ((GV.Join.f t102 (⟨#[32]⟩ : ByteArray)).bind fun t107 => (if t107.toList = a0_1.toList then (if (a0_1.size : Int) > 8192 then (some 5) else ((GV.someLong.f t102 (Value.func (.func 120) #[] #[])).bind fun t108 => (if t108 = true then (some 5) else (some 0)))) else (some 3))))) else (some 12)))
set_option maxHeartbeats 8000000 in
set_option maxRecDepth 100000 in
theorem field_Field_Check.calls (k : Nat) (a0_0 : ByteArray) (a0_1 : ByteArray) (r : Int) (w : World) (h : field_Field_Check.f k a0_0 a0_1 = some r) :
    Calls Tryz.prog 89 #[.agg #[.string a0_0, .string a0_1]] w fun e w' => e = .returned (.int .i64 r) ∧ Below w.heap.size w w' := by
  have hu76 := Tryz.underlying76
  have HB := Aside0.mk (Below.refl w.heap.size w)
  have H : ((GV.Words.f a0_1).bind fun t102 => ((PA.field_ValidName.f k a0_0).bind fun t105 => (if t105 = true then ((GV.Printable.f a0_1).bind fun t106 => (if t106 ≥ 0 then (some 6) else ((GV.Join.f t102 (⟨#[32]⟩ : ByteArray)).bind fun t107 => (if t107.toList = a0_1.toList then (if (a0_1.size : Int) > 8192 then (some 5) else ((GV.someLong.f t102 (Value.func (.func 120) #[] #[])).bind fun t108 => (if t108 = true then (some 5) else (some 0)))) else (some 3))))) else (some 12)))) = some r := h
  clear h
  replace H := Option.bind_eq_some_iff.mp H
  obtain ⟨t102, A20, H⟩ := H
  replace H : ((PA.field_ValidName.f k a0_0).bind fun t105 => (if t105 = true then ((GV.Printable.f a0_1).bind fun t106 => (if t106 ≥ 0 then (some 6) else ((GV.Join.f t102 (⟨#[32]⟩ : ByteArray)).bind fun t107 => (if t107.toList = a0_1.toList then (if (a0_1.size : Int) > 8192 then (some 5) else ((GV.someLong.f t102 (Value.func (.func 120) #[] #[])).bind fun t108 => (if t108 = true then (some 5) else (some 0)))) else (some 3))))) else (some 12))) = some r := H
  have A2 := Aside0.mk A20
  clear A20
  replace H := Option.bind_eq_some_iff.mp H
  obtain ⟨t105, A30, H⟩ := H
  replace H : (if t105 = true then ((GV.Printable.f a0_1).bind fun t106 => (if t106 ≥ 0 then (some 6) else ((GV.Join.f t102 (⟨#[32]⟩ : ByteArray)).bind fun t107 => (if t107.toList = a0_1.toList then (if (a0_1.size : Int) > 8192 then (some 5) else ((GV.someLong.f t102 (Value.func (.func 120) #[] #[])).bind fun t108 => (if t108 = true then (some 5) else (some 0)))) else (some 3))))) else (some 12)) = some r := H
  have A3 := Aside0.mk A30
  clear A30
  by_cases c4 : t105 = true
  · subst c4
    have H1 : ((GV.Printable.f a0_1).bind fun t106 => (if t106 ≥ 0 then (some 6) else ((GV.Join.f t102 (⟨#[32]⟩ : ByteArray)).bind fun t107 => (if t107.toList = a0_1.toList then (if (a0_1.size : Int) > 8192 then (some 5) else ((GV.someLong.f t102 (Value.func (.func 120) #[] #[])).bind fun t108 => (if t108 = true then (some 5) else (some 0)))) else (some 3))))) = some r := by rw [if_pos rfl] at H; exact H
    clear H
    have H := H1
    clear H1
    replace H := Option.bind_eq_some_iff.mp H
    obtain ⟨t106, A50, H⟩ := H
    replace H : (if t106 ≥ 0 then (some 6) else ((GV.Join.f t102 (⟨#[32]⟩ : ByteArray)).bind fun t107 => (if t107.toList = a0_1.toList then (if (a0_1.size : Int) > 8192 then (some 5) else ((GV.someLong.f t102 (Value.func (.func 120) #[] #[])).bind fun t108 => (if t108 = true then (some 5) else (some 0)))) else (some 3)))) = some r := H
    have A5 := Aside0.mk A50
    clear A50
    by_cases c6 : t106 ≥ 0
    · rw [if_pos c6] at H
      have c6b0 : decide (0 ≤ t106) = true := decide_eq_true c6
      clear c6
      obtain rfl := Option.some.inj H
      go_enter Tryz.func89, Tryz.ntmps89
      go_wp2_with (first | ((with_reducible refine gate_dst (N := 1) rfl ?_); refine box_event ?hg (N := 1) ?hd (cs := #[.string a0_0, .string a0_1]) (t := 76) ?hr ?_; (case hd => rfl); (case hg => rfl); (case hr => first | (go_simp; done) | (go_simp; rfl)); intro gb101 hg w7 hbox hb; have n0_ := Aside0.mk (below_step (by repeat (first | (with_reducible first | exact HB.out | apply below_alloc | apply pw_below_drewN | apply below_drew1) | exact HB.out)) hb); have n1_ := Aside0.mk (hbox); have n2_ := Aside0.mk ((by rw [hg]; exact (below_size (by repeat (first | (with_reducible first | exact HB.out | apply below_alloc | apply pw_below_drewN | apply below_drew1) | exact HB.out))) : w.heap.size ≤ gb101)); have n3_ := Aside0.mk ((by rw [hg]; exact (below_size (by repeat (first | (with_reducible first | exact HB.out | apply below_alloc | apply pw_below_drewN | apply below_drew1) | exact HB.out))) : w.heap.size ≤ gb101)); clear HB; have HB := n0_; have BK101 := n1_; have GW101 := n2_; have GE101 := n3_; clear n0_ n1_ n2_ n3_; clear hb hbox hg; have hcz8_0 : w7.cell? ⟨gb101, 0, none⟩ = some (.string a0_0) := (blk_cell BK101.out 0).trans rfl; have hcz8_1 : w7.cell? ⟨gb101, 1, none⟩ = some (.string a0_1) := (blk_cell BK101.out 1).trans rfl; have hfz8_0 := blk_frozen BK101.out 0; have hfz8_1 := blk_frozen BK101.out 1) | ((with_reducible refine gate_callee (f := 90) rfl ?_); refine goesL_ (some 6) rfl rfl Tryz.func90 (by kernel_rfl) rfl #[.string a0_1] rfl (by (try simp only [List.map_toArray, List.map_cons, List.map_nil]); first | done | rfl | (simp only [List.length_drop, List.length_take]; rfl)) ?_; (with_reducible refine (GV.Words.calls a0_1 t102 _ A2.out).mono ?_); rintro e w9 ⟨v103, rfl, ho0, hb⟩; refine ⟨_, rfl, ?_⟩; have n0_ := Aside0.mk (Kd.R_lower ho0 (below_size (by repeat (first | (with_reducible first | exact HB.out | apply below_alloc | apply pw_below_drewN | apply below_drew1 | refine below_set ?_ GE101.out) | exact HB.out)))); have n1_ := Aside0.mk (blk_below (g := gb101) (o := .cells #[.string a0_0, .string a0_1] 76 (0, 0)) (by (with_reducible repeat (first | refine blk_drewN ?_ _ | refine blk_drew ?_ | refine blk_alloc ?_ _)); exact BK101.out) hb); have n2_ := Aside0.mk (below_step (by repeat (first | (with_reducible first | exact HB.out | apply below_alloc | apply pw_below_drewN | apply below_drew1 | refine below_set ?_ GE101.out) | exact HB.out)) hb); clear BK101; clear HB; have HO104 := n0_; have BK101 := n1_; have HB := n2_; clear n0_ n1_ n2_; (try clear hb); (try clear hb2); (try clear hk); (try clear hi); (try clear ho0); have hcz10_0 : w9.cell? ⟨gb101, 0, none⟩ = some (.string a0_0) := (blk_cell BK101.out 0).trans rfl; have hcz10_1 : w9.cell? ⟨gb101, 1, none⟩ = some (.string a0_1) := (blk_cell BK101.out 1).trans rfl; have hfz10_0 := blk_frozen BK101.out 0; have hfz10_1 := blk_frozen BK101.out 1) | ((with_reducible refine gate_callee (f := 116) rfl ?_); refine goesL_ (some 10) rfl rfl Tryz.func116 (by kernel_rfl) rfl #[.string a0_0] rfl (by (try simp only [List.map_toArray, List.map_cons, List.map_nil]); first | done | rfl | (simp only [List.length_drop, List.length_take]; rfl)) ?_; (with_reducible refine (PA.field_ValidName.calls k a0_0 true _ A3.out).mono ?_); rintro e w' ⟨rfl, ⟨nd, rfl⟩⟩; refine ⟨_, rfl, ?_⟩) | ((with_reducible refine gate_callee (f := 117) rfl ?_); refine goesL_ (some 15) rfl rfl Tryz.func117 (by kernel_rfl) rfl #[.string a0_1] rfl (by (try simp only [List.map_toArray, List.map_cons, List.map_nil]); first | done | rfl | (simp only [List.length_drop, List.length_take]; rfl)) ?_; (with_reducible refine (GV.Printable.calls a0_1 t106 _ A5.out).mono ?_); rintro e w' ⟨rfl, ⟨nd, rfl⟩⟩; refine ⟨_, rfl, ?_⟩))
      go_ret
      exact ⟨by first | rfl | (simp [errW_none, errW_some] <;> rfl) | (simp [*, errW_none, errW_some] <;> rfl), by repeat (first | (with_reducible first | exact HB.out | apply below_alloc | apply pw_below_drewN | apply below_drew1 | refine below_set ?_ GE101.out) | exact HB.out)⟩
    · rw [if_neg c6] at H
      have c6b0 : decide (0 ≤ t106) = false := decide_eq_false c6
      clear c6
      replace H := Option.bind_eq_some_iff.mp H
      obtain ⟨t107, A110, H⟩ := H
      replace H : (if t107.toList = a0_1.toList then (if (a0_1.size : Int) > 8192 then (some 5) else ((GV.someLong.f t102 (Value.func (.func 120) #[] #[])).bind fun t108 => (if t108 = true then (some 5) else (some 0)))) else (some 3)) = some r := H
      have A11 := Aside0.mk A110
      clear A110
      by_cases c12 : t107.toList = a0_1.toList
      · rw [if_pos c12] at H
        have c12b0 : (t107.toList == a0_1.toList) = true := beq_iff_eq.mpr c12
        have c12b1 : (t107.toList != a0_1.toList) = false := bne_eq_false_iff_eq.mpr c12
        clear c12
        by_cases c13 : (a0_1.size : Int) > 8192
        · rw [if_pos c13] at H
          have c13b0 : decide (8192 < (a0_1.size : Int)) = true := decide_eq_true c13
          have c13b1 : decide (8192 < a0_1.size) = true := decide_eq_true (by omega)
          clear c13
          obtain rfl := Option.some.inj H
          go_enter Tryz.func89, Tryz.ntmps89
          try go_wp2_with (first | ((with_reducible refine gate_dst (N := 1) rfl ?_); refine box_event ?hg (N := 1) ?hd (cs := #[.string a0_0, .string a0_1]) (t := 76) ?hr ?_; (case hd => rfl); (case hg => rfl); (case hr => first | (go_simp; done) | (go_simp; rfl)); intro gb101 hg w14 hbox hb; have n0_ := Aside0.mk (below_step (by repeat (first | (with_reducible first | exact HB.out | apply below_alloc | apply pw_below_drewN | apply below_drew1) | exact HB.out)) hb); have n1_ := Aside0.mk (hbox); have n2_ := Aside0.mk ((by rw [hg]; exact (below_size (by repeat (first | (with_reducible first | exact HB.out | apply below_alloc | apply pw_below_drewN | apply below_drew1) | exact HB.out))) : w.heap.size ≤ gb101)); have n3_ := Aside0.mk ((by rw [hg]; exact (below_size (by repeat (first | (with_reducible first | exact HB.out | apply below_alloc | apply pw_below_drewN | apply below_drew1) | exact HB.out))) : w.heap.size ≤ gb101)); clear HB; have HB := n0_; have BK101 := n1_; have GW101 := n2_; have GE101 := n3_; clear n0_ n1_ n2_ n3_; clear hb hbox hg; have hcz15_0 : w14.cell? ⟨gb101, 0, none⟩ = some (.string a0_0) := (blk_cell BK101.out 0).trans rfl; have hcz15_1 : w14.cell? ⟨gb101, 1, none⟩ = some (.string a0_1) := (blk_cell BK101.out 1).trans rfl; have hfz15_0 := blk_frozen BK101.out 0; have hfz15_1 := blk_frozen BK101.out 1) | ((with_reducible refine gate_callee (f := 90) rfl ?_); refine goesL_ (some 6) rfl rfl Tryz.func90 (by kernel_rfl) rfl #[.string a0_1] rfl (by (try simp only [List.map_toArray, List.map_cons, List.map_nil]); first | done | rfl | (simp only [List.length_drop, List.length_take]; rfl)) ?_; (with_reducible refine (GV.Words.calls a0_1 t102 _ A2.out).mono ?_); rintro e w16 ⟨v103, rfl, ho0, hb⟩; refine ⟨_, rfl, ?_⟩; have n0_ := Aside0.mk (Kd.R_lower ho0 (below_size (by repeat (first | (with_reducible first | exact HB.out | apply below_alloc | apply pw_below_drewN | apply below_drew1 | refine below_set ?_ GE101.out) | exact HB.out)))); have n1_ := Aside0.mk (blk_below (g := gb101) (o := .cells #[.string a0_0, .string a0_1] 76 (0, 0)) (by (with_reducible repeat (first | refine blk_drewN ?_ _ | refine blk_drew ?_ | refine blk_alloc ?_ _)); exact BK101.out) hb); have n2_ := Aside0.mk (below_step (by repeat (first | (with_reducible first | exact HB.out | apply below_alloc | apply pw_below_drewN | apply below_drew1 | refine below_set ?_ GE101.out) | exact HB.out)) hb); clear BK101; clear HB; have HO104 := n0_; have BK101 := n1_; have HB := n2_; clear n0_ n1_ n2_; (try clear hb); (try clear hb2); (try clear hk); (try clear hi); (try clear ho0); have hcz17_0 : w16.cell? ⟨gb101, 0, none⟩ = some (.string a0_0) := (blk_cell BK101.out 0).trans rfl; have hcz17_1 : w16.cell? ⟨gb101, 1, none⟩ = some (.string a0_1) := (blk_cell BK101.out 1).trans rfl; have hfz17_0 := blk_frozen BK101.out 0; have hfz17_1 := blk_frozen BK101.out 1) | ((with_reducible refine gate_callee (f := 116) rfl ?_); refine goesL_ (some 10) rfl rfl Tryz.func116 (by kernel_rfl) rfl #[.string a0_0] rfl (by (try simp only [List.map_toArray, List.map_cons, List.map_nil]); first | done | rfl | (simp only [List.length_drop, List.length_take]; rfl)) ?_; (with_reducible refine (PA.field_ValidName.calls k a0_0 true _ A3.out).mono ?_); rintro e w' ⟨rfl, ⟨nd, rfl⟩⟩; refine ⟨_, rfl, ?_⟩) | ((with_reducible refine gate_callee (f := 117) rfl ?_); refine goesL_ (some 15) rfl rfl Tryz.func117 (by kernel_rfl) rfl #[.string a0_1] rfl (by (try simp only [List.map_toArray, List.map_cons, List.map_nil]); first | done | rfl | (simp only [List.length_drop, List.length_take]; rfl)) ?_; (with_reducible refine (GV.Printable.calls a0_1 t106 _ A5.out).mono ?_); rintro e w' ⟨rfl, ⟨nd, rfl⟩⟩; refine ⟨_, rfl, ?_⟩))
          (try (rw [drewN_self w16]; generalize hq_ : World.drewN w16 _ = w16; have n0_ : Aside0 (Kd.R Kd.string 9 w16 w.heap.size (fun _ => True) v103 t102) := ⟨by rw [← hq_]; exact (by (with_reducible repeat (first | apply Kd.R_alloc | apply Kd.R_drewN | apply Kd.R_drew)); exact HO104.out)⟩; have n1_ : Aside0 (w16.heap[gb101]? = some (.cells #[.string a0_0, .string a0_1] 76 (0, 0))) := ⟨by rw [← hq_]; exact (by (with_reducible repeat (first | refine blk_drewN ?_ _ | refine blk_drew ?_ | refine blk_alloc ?_ _)); exact BK101.out)⟩; have n2_ : Aside0 (Below w.heap.size w w16) := ⟨by rw [← hq_]; exact (by repeat (first | (with_reducible first | exact HB.out | apply below_alloc | apply pw_below_drewN | apply below_drew1 | refine below_set ?_ GE101.out) | exact HB.out))⟩; clear HO104 BK101 HB hq_; have HO104 := n0_; have BK101 := n1_; have HB := n2_; clear n0_ n1_ n2_))
          have n0_ := Aside0.mk (Kd.R_drew HO104.out)
          have n1_ := Aside0.mk (blk_drew BK101.out)
          have n2_ := Aside0.mk (below_drew1 HB.out)
          clear HO104
          clear BK101
          clear HB
          have HO104 := n0_
          have BK101 := n1_
          have HB := n2_
          clear n0_ n1_ n2_
          obtain ⟨Ao19, co19, eo19⟩ := Kd.R_slice HO104.out
          (first | subst eo19 | (injection eo19 with f1_ f2_ f3_; have f4_ := f1_.symm; have f5_ := f3_.symm; clear f1_ f2_ f3_; subst f4_; subst f5_))
          refine start_ (n := 6) (S := fun w' => w'.cell? ⟨gb101, 0, none⟩ = some (.string a0_0) ∧ w'.cell? ⟨gb101, 1, none⟩ = some (.string a0_1)) (ds := []) #[false, false, false, false, false, false] (by kernel_rfl) rfl rfl ⟨(blk_cell BK101.out 0).trans rfl, (blk_cell BK101.out 1).trans rfl⟩ (fun hHeld => ?_)
          generalize w16.drew = w18 at HO104 BK101 HB hHeld ⊢
          refine pure_ (i := 0) (N := some 18) (v := ?_) (a' := ?_) #[true, false, false, false, false, false] rfl rfl (by kernel_rfl) (fun _ _ _ h => h) (Or.inl ⟨by rfl, ?_⟩) ?_ ?_
          rotate_left
          · intro w'
            go_simp
            with_reducible rfl
          rotate_left
          · simp only [Act.put, List.setIfInBounds_toArray, List.set_cons_zero, List.set_cons_succ, i64_w, i32_w]
            rfl
          refine pure_ (i := 2) (N := some 20) (v := ?_) (a' := ?_) #[true, false, true, false, false, false] rfl rfl (by kernel_rfl) (fun _ _ _ h => h) (Or.inl ⟨by rfl, ?_⟩) ?_ ?_
          rotate_left
          · intro w'
            go_simp
            with_reducible rfl
          rotate_left
          · simp only [Act.put, List.setIfInBounds_toArray, List.set_cons_zero, List.set_cons_succ, i64_w, i32_w]
            rfl
          refine take_ (i := 3) (N := some 21) (v := ?_) (a' := ?_) #[true, false, true, true, false, false] rfl rfl (by kernel_rfl) (fun _ _ _ h => h) (Or.inl ⟨by rfl, ?_⟩) hHeld ?_ ?_
          rotate_left
          · rintro w' ⟨s0, s1⟩
            go_simp
            with_reducible rfl
          rotate_left
          · simp only [Act.put, List.setIfInBounds_toArray, List.set_cons_zero, List.set_cons_succ, i64_w, i32_w]
            rfl
          refine one_ (i := 1) (N := some 19) #[true, true, true, true, false, false] rfl rfl (by kernel_rfl) (by decide) (fun K hK => ?_)
          refine goes_ Tryz.func118 (by kernel_rfl) rfl #[.slice Ao19 t102.length co19, .string (⟨#[32]⟩ : ByteArray)] (by rfl) rfl rfl (by (try simp only [List.map_toArray, List.map_cons, List.map_nil]); first | done | rfl | (simp only [List.length_drop, List.length_take]; rfl)) ?_
          with_reducible refine (GV.Join.calls _ _ t102 (⟨#[32]⟩ : ByteArray) t107 _ ?side1 ?side2 A11.out).mono ?_
          (case side1 => repeat (first | exact (Kd.R_reads' HO104.out).2.2 | (with_reducible refine Kd.C_alloc ?_ _) | (with_reducible refine Kd.C_drewN ?_ _) | (with_reducible refine Kd.C_drew ?_)))
          (case side2 => exact (Kd.R_reads' HO104.out).2.1)
          rintro e w20 ⟨rfl, hb⟩
          refine ⟨_, rfl, ?_⟩
          have n0_ := Aside0.mk (Kd.R_below (by (with_reducible repeat (first | apply Kd.R_alloc | apply Kd.R_drewN | apply Kd.R_drew)); exact HO104.out) hb)
          have n1_ := Aside0.mk (blk_below (g := gb101) (o := .cells #[.string a0_0, .string a0_1] 76 (0, 0)) (by (with_reducible repeat (first | refine blk_drewN ?_ _ | refine blk_drew ?_ | refine blk_alloc ?_ _)); exact BK101.out) hb)
          have n2_ := Aside0.mk (below_step (by repeat (first | (with_reducible first | exact HB.out | apply below_alloc | apply pw_below_drewN | apply below_drew1 | refine below_set ?_ GE101.out) | exact HB.out)) hb)
          clear HO104
          clear BK101
          clear HB
          have HO104 := n0_
          have BK101 := n1_
          have HB := n2_
          clear n0_ n1_ n2_
          (try clear hb)
          (try clear hb2)
          (try clear hk)
          (try clear hi)
          refine hK.out _ _ ⟨(blk_cell BK101.out 0).trans rfl, (blk_cell BK101.out 1).trans rfl⟩ (fun hHeld => ?_)
          clear hK K
          refine norm_ (a' := ?_) ?_ ?_
          rotate_left
          · show Act.put _ (some 19) _ = _
            simp only [Act.put, List.setIfInBounds_toArray, List.set_cons_zero, List.set_cons_succ, i64_w, i32_w]
            rfl
          refine pure_ (i := 4) (N := some 22) (v := ?_) (a' := ?_) #[true, true, true, true, true, false] rfl rfl (by kernel_rfl) (fun _ _ _ h => h) (Or.inl ⟨by rfl, ?_⟩) ?_ ?_
          rotate_left
          · intro w'
            go_simp
            with_reducible rfl
          rotate_left
          · simp only [Act.put, List.setIfInBounds_toArray, List.set_cons_zero, List.set_cons_succ, i64_w, i32_w]
            rfl
          refine pure_ (i := 5) (N := some 17) (v := ?_) (a' := ?_) #[true, true, true, true, true, true] rfl rfl (by kernel_rfl) (fun _ _ _ h => h) (Or.inl ⟨by rfl, ?_⟩) ?_ ?_
          rotate_left
          · intro w'
            go_simp
            with_reducible rfl
          rotate_left
          · simp only [Act.put, List.setIfInBounds_toArray, List.set_cons_zero, List.set_cons_succ, i64_w, i32_w]
            rfl
          refine done_ (by kernel_rfl) ?_
          have hcz21_0 : w20.cell? ⟨gb101, 0, none⟩ = some (.string a0_0) := (blk_cell BK101.out 0).trans rfl
          have hcz21_1 : w20.cell? ⟨gb101, 1, none⟩ = some (.string a0_1) := (blk_cell BK101.out 1).trans rfl
          have hfz21_0 := blk_frozen BK101.out 0
          have hfz21_1 := blk_frozen BK101.out 1
          try go_wp2
          go_ret
          exact ⟨by first | rfl | (simp [errW_none, errW_some] <;> rfl) | (simp [*, errW_none, errW_some] <;> rfl), by repeat (first | (with_reducible first | exact HB.out | apply below_alloc | apply pw_below_drewN | apply below_drew1 | refine below_set ?_ GE101.out) | exact HB.out)⟩
        · rw [if_neg c13] at H
          have c13b0 : decide (8192 < (a0_1.size : Int)) = false := decide_eq_false c13
          have c13b1 : decide (8192 < a0_1.size) = false := decide_eq_false (by omega)
          clear c13
          replace H := Option.bind_eq_some_iff.mp H
          obtain ⟨t108, A220, H⟩ := H
          replace H : (if t108 = true then (some 5) else (some 0)) = some r := H
          have A22 := Aside0.mk A220
          clear A220
          by_cases c23 : t108 = true
          · subst c23
            have H1 : (some 5) = some r := by rw [if_pos rfl] at H; exact H
            clear H
            have H := H1
            clear H1
            obtain rfl := Option.some.inj H
            go_enter Tryz.func89, Tryz.ntmps89
            try go_wp2_with (first | ((with_reducible refine gate_dst (N := 1) rfl ?_); refine box_event ?hg (N := 1) ?hd (cs := #[.string a0_0, .string a0_1]) (t := 76) ?hr ?_; (case hd => rfl); (case hg => rfl); (case hr => first | (go_simp; done) | (go_simp; rfl)); intro gb101 hg w24 hbox hb; have n0_ := Aside0.mk (below_step (by repeat (first | (with_reducible first | exact HB.out | apply below_alloc | apply pw_below_drewN | apply below_drew1) | exact HB.out)) hb); have n1_ := Aside0.mk (hbox); have n2_ := Aside0.mk ((by rw [hg]; exact (below_size (by repeat (first | (with_reducible first | exact HB.out | apply below_alloc | apply pw_below_drewN | apply below_drew1) | exact HB.out))) : w.heap.size ≤ gb101)); have n3_ := Aside0.mk ((by rw [hg]; exact (below_size (by repeat (first | (with_reducible first | exact HB.out | apply below_alloc | apply pw_below_drewN | apply below_drew1) | exact HB.out))) : w.heap.size ≤ gb101)); clear HB; have HB := n0_; have BK101 := n1_; have GW101 := n2_; have GE101 := n3_; clear n0_ n1_ n2_ n3_; clear hb hbox hg; have hcz25_0 : w24.cell? ⟨gb101, 0, none⟩ = some (.string a0_0) := (blk_cell BK101.out 0).trans rfl; have hcz25_1 : w24.cell? ⟨gb101, 1, none⟩ = some (.string a0_1) := (blk_cell BK101.out 1).trans rfl; have hfz25_0 := blk_frozen BK101.out 0; have hfz25_1 := blk_frozen BK101.out 1) | ((with_reducible refine gate_callee (f := 90) rfl ?_); refine goesL_ (some 6) rfl rfl Tryz.func90 (by kernel_rfl) rfl #[.string a0_1] rfl (by (try simp only [List.map_toArray, List.map_cons, List.map_nil]); first | done | rfl | (simp only [List.length_drop, List.length_take]; rfl)) ?_; (with_reducible refine (GV.Words.calls a0_1 t102 _ A2.out).mono ?_); rintro e w26 ⟨v103, rfl, ho0, hb⟩; refine ⟨_, rfl, ?_⟩; have n0_ := Aside0.mk (Kd.R_lower ho0 (below_size (by repeat (first | (with_reducible first | exact HB.out | apply below_alloc | apply pw_below_drewN | apply below_drew1 | refine below_set ?_ GE101.out) | exact HB.out)))); have n1_ := Aside0.mk (blk_below (g := gb101) (o := .cells #[.string a0_0, .string a0_1] 76 (0, 0)) (by (with_reducible repeat (first | refine blk_drewN ?_ _ | refine blk_drew ?_ | refine blk_alloc ?_ _)); exact BK101.out) hb); have n2_ := Aside0.mk (below_step (by repeat (first | (with_reducible first | exact HB.out | apply below_alloc | apply pw_below_drewN | apply below_drew1 | refine below_set ?_ GE101.out) | exact HB.out)) hb); clear BK101; clear HB; have HO104 := n0_; have BK101 := n1_; have HB := n2_; clear n0_ n1_ n2_; (try clear hb); (try clear hb2); (try clear hk); (try clear hi); (try clear ho0); have hcz27_0 : w26.cell? ⟨gb101, 0, none⟩ = some (.string a0_0) := (blk_cell BK101.out 0).trans rfl; have hcz27_1 : w26.cell? ⟨gb101, 1, none⟩ = some (.string a0_1) := (blk_cell BK101.out 1).trans rfl; have hfz27_0 := blk_frozen BK101.out 0; have hfz27_1 := blk_frozen BK101.out 1) | ((with_reducible refine gate_callee (f := 116) rfl ?_); refine goesL_ (some 10) rfl rfl Tryz.func116 (by kernel_rfl) rfl #[.string a0_0] rfl (by (try simp only [List.map_toArray, List.map_cons, List.map_nil]); first | done | rfl | (simp only [List.length_drop, List.length_take]; rfl)) ?_; (with_reducible refine (PA.field_ValidName.calls k a0_0 true _ A3.out).mono ?_); rintro e w' ⟨rfl, ⟨nd, rfl⟩⟩; refine ⟨_, rfl, ?_⟩) | ((with_reducible refine gate_callee (f := 117) rfl ?_); refine goesL_ (some 15) rfl rfl Tryz.func117 (by kernel_rfl) rfl #[.string a0_1] rfl (by (try simp only [List.map_toArray, List.map_cons, List.map_nil]); first | done | rfl | (simp only [List.length_drop, List.length_take]; rfl)) ?_; (with_reducible refine (GV.Printable.calls a0_1 t106 _ A5.out).mono ?_); rintro e w' ⟨rfl, ⟨nd, rfl⟩⟩; refine ⟨_, rfl, ?_⟩))
            (try (rw [drewN_self w26]; generalize hq_ : World.drewN w26 _ = w26; have n0_ : Aside0 (Kd.R Kd.string 9 w26 w.heap.size (fun _ => True) v103 t102) := ⟨by rw [← hq_]; exact (by (with_reducible repeat (first | apply Kd.R_alloc | apply Kd.R_drewN | apply Kd.R_drew)); exact HO104.out)⟩; have n1_ : Aside0 (w26.heap[gb101]? = some (.cells #[.string a0_0, .string a0_1] 76 (0, 0))) := ⟨by rw [← hq_]; exact (by (with_reducible repeat (first | refine blk_drewN ?_ _ | refine blk_drew ?_ | refine blk_alloc ?_ _)); exact BK101.out)⟩; have n2_ : Aside0 (Below w.heap.size w w26) := ⟨by rw [← hq_]; exact (by repeat (first | (with_reducible first | exact HB.out | apply below_alloc | apply pw_below_drewN | apply below_drew1 | refine below_set ?_ GE101.out) | exact HB.out))⟩; clear HO104 BK101 HB hq_; have HO104 := n0_; have BK101 := n1_; have HB := n2_; clear n0_ n1_ n2_))
            have n0_ := Aside0.mk (Kd.R_drew HO104.out)
            have n1_ := Aside0.mk (blk_drew BK101.out)
            have n2_ := Aside0.mk (below_drew1 HB.out)
            clear HO104
            clear BK101
            clear HB
            have HO104 := n0_
            have BK101 := n1_
            have HB := n2_
            clear n0_ n1_ n2_
            obtain ⟨Ao29, co29, eo29⟩ := Kd.R_slice HO104.out
            (first | subst eo29 | (injection eo29 with f1_ f2_ f3_; have f4_ := f1_.symm; have f5_ := f3_.symm; clear f1_ f2_ f3_; subst f4_; subst f5_))
            refine start_ (n := 6) (S := fun w' => w'.cell? ⟨gb101, 0, none⟩ = some (.string a0_0) ∧ w'.cell? ⟨gb101, 1, none⟩ = some (.string a0_1)) (ds := []) #[false, false, false, false, false, false] (by kernel_rfl) rfl rfl ⟨(blk_cell BK101.out 0).trans rfl, (blk_cell BK101.out 1).trans rfl⟩ (fun hHeld => ?_)
            generalize w26.drew = w28 at HO104 BK101 HB hHeld ⊢
            refine pure_ (i := 0) (N := some 18) (v := ?_) (a' := ?_) #[true, false, false, false, false, false] rfl rfl (by kernel_rfl) (fun _ _ _ h => h) (Or.inl ⟨by rfl, ?_⟩) ?_ ?_
            rotate_left
            · intro w'
              go_simp
              with_reducible rfl
            rotate_left
            · simp only [Act.put, List.setIfInBounds_toArray, List.set_cons_zero, List.set_cons_succ, i64_w, i32_w]
              rfl
            refine pure_ (i := 2) (N := some 20) (v := ?_) (a' := ?_) #[true, false, true, false, false, false] rfl rfl (by kernel_rfl) (fun _ _ _ h => h) (Or.inl ⟨by rfl, ?_⟩) ?_ ?_
            rotate_left
            · intro w'
              go_simp
              with_reducible rfl
            rotate_left
            · simp only [Act.put, List.setIfInBounds_toArray, List.set_cons_zero, List.set_cons_succ, i64_w, i32_w]
              rfl
            refine take_ (i := 3) (N := some 21) (v := ?_) (a' := ?_) #[true, false, true, true, false, false] rfl rfl (by kernel_rfl) (fun _ _ _ h => h) (Or.inl ⟨by rfl, ?_⟩) hHeld ?_ ?_
            rotate_left
            · rintro w' ⟨s0, s1⟩
              go_simp
              with_reducible rfl
            rotate_left
            · simp only [Act.put, List.setIfInBounds_toArray, List.set_cons_zero, List.set_cons_succ, i64_w, i32_w]
              rfl
            refine one_ (i := 1) (N := some 19) #[true, true, true, true, false, false] rfl rfl (by kernel_rfl) (by decide) (fun K hK => ?_)
            refine goes_ Tryz.func118 (by kernel_rfl) rfl #[.slice Ao29 t102.length co29, .string (⟨#[32]⟩ : ByteArray)] (by rfl) rfl rfl (by (try simp only [List.map_toArray, List.map_cons, List.map_nil]); first | done | rfl | (simp only [List.length_drop, List.length_take]; rfl)) ?_
            with_reducible refine (GV.Join.calls _ _ t102 (⟨#[32]⟩ : ByteArray) t107 _ ?side1 ?side2 A11.out).mono ?_
            (case side1 => repeat (first | exact (Kd.R_reads' HO104.out).2.2 | (with_reducible refine Kd.C_alloc ?_ _) | (with_reducible refine Kd.C_drewN ?_ _) | (with_reducible refine Kd.C_drew ?_)))
            (case side2 => exact (Kd.R_reads' HO104.out).2.1)
            rintro e w30 ⟨rfl, hb⟩
            refine ⟨_, rfl, ?_⟩
            have n0_ := Aside0.mk (Kd.R_below (by (with_reducible repeat (first | apply Kd.R_alloc | apply Kd.R_drewN | apply Kd.R_drew)); exact HO104.out) hb)
            have n1_ := Aside0.mk (blk_below (g := gb101) (o := .cells #[.string a0_0, .string a0_1] 76 (0, 0)) (by (with_reducible repeat (first | refine blk_drewN ?_ _ | refine blk_drew ?_ | refine blk_alloc ?_ _)); exact BK101.out) hb)
            have n2_ := Aside0.mk (below_step (by repeat (first | (with_reducible first | exact HB.out | apply below_alloc | apply pw_below_drewN | apply below_drew1 | refine below_set ?_ GE101.out) | exact HB.out)) hb)
            clear HO104
            clear BK101
            clear HB
            have HO104 := n0_
            have BK101 := n1_
            have HB := n2_
            clear n0_ n1_ n2_
            (try clear hb)
            (try clear hb2)
            (try clear hk)
            (try clear hi)
            refine hK.out _ _ ⟨(blk_cell BK101.out 0).trans rfl, (blk_cell BK101.out 1).trans rfl⟩ (fun hHeld => ?_)
            clear hK K
            refine norm_ (a' := ?_) ?_ ?_
            rotate_left
            · show Act.put _ (some 19) _ = _
              simp only [Act.put, List.setIfInBounds_toArray, List.set_cons_zero, List.set_cons_succ, i64_w, i32_w]
              rfl
            refine pure_ (i := 4) (N := some 22) (v := ?_) (a' := ?_) #[true, true, true, true, true, false] rfl rfl (by kernel_rfl) (fun _ _ _ h => h) (Or.inl ⟨by rfl, ?_⟩) ?_ ?_
            rotate_left
            · intro w'
              go_simp
              with_reducible rfl
            rotate_left
            · simp only [Act.put, List.setIfInBounds_toArray, List.set_cons_zero, List.set_cons_succ, i64_w, i32_w]
              rfl
            refine pure_ (i := 5) (N := some 17) (v := ?_) (a' := ?_) #[true, true, true, true, true, true] rfl rfl (by kernel_rfl) (fun _ _ _ h => h) (Or.inl ⟨by rfl, ?_⟩) ?_ ?_
            rotate_left
            · intro w'
              go_simp
              with_reducible rfl
            rotate_left
            · simp only [Act.put, List.setIfInBounds_toArray, List.set_cons_zero, List.set_cons_succ, i64_w, i32_w]
              rfl
            refine done_ (by kernel_rfl) ?_
            have hcz31_0 : w30.cell? ⟨gb101, 0, none⟩ = some (.string a0_0) := (blk_cell BK101.out 0).trans rfl
            have hcz31_1 : w30.cell? ⟨gb101, 1, none⟩ = some (.string a0_1) := (blk_cell BK101.out 1).trans rfl
            have hfz31_0 := blk_frozen BK101.out 0
            have hfz31_1 := blk_frozen BK101.out 1
            try go_wp2_with (first | (go_at_call 119; (with_reducible refine (GV.someLong.calls _ _ t102 (Value.func (.func 120) #[] #[]) true _ ?side1 ?side2 A22.out).mono ?_); (case side1 => repeat (first | exact (Kd.R_reads' HO104.out).2.2 | (with_reducible refine Kd.C_alloc ?_ _) | (with_reducible refine Kd.C_drewN ?_ _) | (with_reducible refine Kd.C_drew ?_))); (case side2 => exact (Kd.R_reads' HO104.out).2.1); rintro e w' ⟨rfl, ⟨nd, rfl⟩⟩))
            go_ret
            exact ⟨by first | rfl | (simp [errW_none, errW_some] <;> rfl) | (simp [*, errW_none, errW_some] <;> rfl), by repeat (first | (with_reducible first | exact HB.out | apply below_alloc | apply pw_below_drewN | apply below_drew1 | refine below_set ?_ GE101.out) | exact HB.out)⟩
          · replace c23 := Bool.eq_false_iff.mpr c23
            subst c23
            have H1 : (some 0) = some r := by rw [if_neg (show ¬ (false = true) by decide)] at H; exact H
            clear H
            have H := H1
            clear H1
            obtain rfl := Option.some.inj H
            go_enter Tryz.func89, Tryz.ntmps89
            try go_wp2_with (first | ((with_reducible refine gate_dst (N := 1) rfl ?_); refine box_event ?hg (N := 1) ?hd (cs := #[.string a0_0, .string a0_1]) (t := 76) ?hr ?_; (case hd => rfl); (case hg => rfl); (case hr => first | (go_simp; done) | (go_simp; rfl)); intro gb101 hg w32 hbox hb; have n0_ := Aside0.mk (below_step (by repeat (first | (with_reducible first | exact HB.out | apply below_alloc | apply pw_below_drewN | apply below_drew1) | exact HB.out)) hb); have n1_ := Aside0.mk (hbox); have n2_ := Aside0.mk ((by rw [hg]; exact (below_size (by repeat (first | (with_reducible first | exact HB.out | apply below_alloc | apply pw_below_drewN | apply below_drew1) | exact HB.out))) : w.heap.size ≤ gb101)); have n3_ := Aside0.mk ((by rw [hg]; exact (below_size (by repeat (first | (with_reducible first | exact HB.out | apply below_alloc | apply pw_below_drewN | apply below_drew1) | exact HB.out))) : w.heap.size ≤ gb101)); clear HB; have HB := n0_; have BK101 := n1_; have GW101 := n2_; have GE101 := n3_; clear n0_ n1_ n2_ n3_; clear hb hbox hg; have hcz33_0 : w32.cell? ⟨gb101, 0, none⟩ = some (.string a0_0) := (blk_cell BK101.out 0).trans rfl; have hcz33_1 : w32.cell? ⟨gb101, 1, none⟩ = some (.string a0_1) := (blk_cell BK101.out 1).trans rfl; have hfz33_0 := blk_frozen BK101.out 0; have hfz33_1 := blk_frozen BK101.out 1) | ((with_reducible refine gate_callee (f := 90) rfl ?_); refine goesL_ (some 6) rfl rfl Tryz.func90 (by kernel_rfl) rfl #[.string a0_1] rfl (by (try simp only [List.map_toArray, List.map_cons, List.map_nil]); first | done | rfl | (simp only [List.length_drop, List.length_take]; rfl)) ?_; (with_reducible refine (GV.Words.calls a0_1 t102 _ A2.out).mono ?_); rintro e w34 ⟨v103, rfl, ho0, hb⟩; refine ⟨_, rfl, ?_⟩; have n0_ := Aside0.mk (Kd.R_lower ho0 (below_size (by repeat (first | (with_reducible first | exact HB.out | apply below_alloc | apply pw_below_drewN | apply below_drew1 | refine below_set ?_ GE101.out) | exact HB.out)))); have n1_ := Aside0.mk (blk_below (g := gb101) (o := .cells #[.string a0_0, .string a0_1] 76 (0, 0)) (by (with_reducible repeat (first | refine blk_drewN ?_ _ | refine blk_drew ?_ | refine blk_alloc ?_ _)); exact BK101.out) hb); have n2_ := Aside0.mk (below_step (by repeat (first | (with_reducible first | exact HB.out | apply below_alloc | apply pw_below_drewN | apply below_drew1 | refine below_set ?_ GE101.out) | exact HB.out)) hb); clear BK101; clear HB; have HO104 := n0_; have BK101 := n1_; have HB := n2_; clear n0_ n1_ n2_; (try clear hb); (try clear hb2); (try clear hk); (try clear hi); (try clear ho0); have hcz35_0 : w34.cell? ⟨gb101, 0, none⟩ = some (.string a0_0) := (blk_cell BK101.out 0).trans rfl; have hcz35_1 : w34.cell? ⟨gb101, 1, none⟩ = some (.string a0_1) := (blk_cell BK101.out 1).trans rfl; have hfz35_0 := blk_frozen BK101.out 0; have hfz35_1 := blk_frozen BK101.out 1) | ((with_reducible refine gate_callee (f := 116) rfl ?_); refine goesL_ (some 10) rfl rfl Tryz.func116 (by kernel_rfl) rfl #[.string a0_0] rfl (by (try simp only [List.map_toArray, List.map_cons, List.map_nil]); first | done | rfl | (simp only [List.length_drop, List.length_take]; rfl)) ?_; (with_reducible refine (PA.field_ValidName.calls k a0_0 true _ A3.out).mono ?_); rintro e w' ⟨rfl, ⟨nd, rfl⟩⟩; refine ⟨_, rfl, ?_⟩) | ((with_reducible refine gate_callee (f := 117) rfl ?_); refine goesL_ (some 15) rfl rfl Tryz.func117 (by kernel_rfl) rfl #[.string a0_1] rfl (by (try simp only [List.map_toArray, List.map_cons, List.map_nil]); first | done | rfl | (simp only [List.length_drop, List.length_take]; rfl)) ?_; (with_reducible refine (GV.Printable.calls a0_1 t106 _ A5.out).mono ?_); rintro e w' ⟨rfl, ⟨nd, rfl⟩⟩; refine ⟨_, rfl, ?_⟩))
            (try (rw [drewN_self w34]; generalize hq_ : World.drewN w34 _ = w34; have n0_ : Aside0 (Kd.R Kd.string 9 w34 w.heap.size (fun _ => True) v103 t102) := ⟨by rw [← hq_]; exact (by (with_reducible repeat (first | apply Kd.R_alloc | apply Kd.R_drewN | apply Kd.R_drew)); exact HO104.out)⟩; have n1_ : Aside0 (w34.heap[gb101]? = some (.cells #[.string a0_0, .string a0_1] 76 (0, 0))) := ⟨by rw [← hq_]; exact (by (with_reducible repeat (first | refine blk_drewN ?_ _ | refine blk_drew ?_ | refine blk_alloc ?_ _)); exact BK101.out)⟩; have n2_ : Aside0 (Below w.heap.size w w34) := ⟨by rw [← hq_]; exact (by repeat (first | (with_reducible first | exact HB.out | apply below_alloc | apply pw_below_drewN | apply below_drew1 | refine below_set ?_ GE101.out) | exact HB.out))⟩; clear HO104 BK101 HB hq_; have HO104 := n0_; have BK101 := n1_; have HB := n2_; clear n0_ n1_ n2_))
            have n0_ := Aside0.mk (Kd.R_drew HO104.out)
            have n1_ := Aside0.mk (blk_drew BK101.out)
            have n2_ := Aside0.mk (below_drew1 HB.out)
            clear HO104
            clear BK101
            clear HB
            have HO104 := n0_
            have BK101 := n1_
            have HB := n2_
            clear n0_ n1_ n2_
            obtain ⟨Ao37, co37, eo37⟩ := Kd.R_slice HO104.out
            (first | subst eo37 | (injection eo37 with f1_ f2_ f3_; have f4_ := f1_.symm; have f5_ := f3_.symm; clear f1_ f2_ f3_; subst f4_; subst f5_))
            refine start_ (n := 6) (S := fun w' => w'.cell? ⟨gb101, 0, none⟩ = some (.string a0_0) ∧ w'.cell? ⟨gb101, 1, none⟩ = some (.string a0_1)) (ds := []) #[false, false, false, false, false, false] (by kernel_rfl) rfl rfl ⟨(blk_cell BK101.out 0).trans rfl, (blk_cell BK101.out 1).trans rfl⟩ (fun hHeld => ?_)
            generalize w34.drew = w36 at HO104 BK101 HB hHeld ⊢
            refine pure_ (i := 0) (N := some 18) (v := ?_) (a' := ?_) #[true, false, false, false, false, false] rfl rfl (by kernel_rfl) (fun _ _ _ h => h) (Or.inl ⟨by rfl, ?_⟩) ?_ ?_
            rotate_left
            · intro w'
              go_simp
              with_reducible rfl
            rotate_left
            · simp only [Act.put, List.setIfInBounds_toArray, List.set_cons_zero, List.set_cons_succ, i64_w, i32_w]
              rfl
            refine pure_ (i := 2) (N := some 20) (v := ?_) (a' := ?_) #[true, false, true, false, false, false] rfl rfl (by kernel_rfl) (fun _ _ _ h => h) (Or.inl ⟨by rfl, ?_⟩) ?_ ?_
            rotate_left
            · intro w'
              go_simp
              with_reducible rfl
            rotate_left
            · simp only [Act.put, List.setIfInBounds_toArray, List.set_cons_zero, List.set_cons_succ, i64_w, i32_w]
              rfl
            refine take_ (i := 3) (N := some 21) (v := ?_) (a' := ?_) #[true, false, true, true, false, false] rfl rfl (by kernel_rfl) (fun _ _ _ h => h) (Or.inl ⟨by rfl, ?_⟩) hHeld ?_ ?_
            rotate_left
            · rintro w' ⟨s0, s1⟩
              go_simp
              with_reducible rfl
            rotate_left
            · simp only [Act.put, List.setIfInBounds_toArray, List.set_cons_zero, List.set_cons_succ, i64_w, i32_w]
              rfl
            refine one_ (i := 1) (N := some 19) #[true, true, true, true, false, false] rfl rfl (by kernel_rfl) (by decide) (fun K hK => ?_)
            refine goes_ Tryz.func118 (by kernel_rfl) rfl #[.slice Ao37 t102.length co37, .string (⟨#[32]⟩ : ByteArray)] (by rfl) rfl rfl (by (try simp only [List.map_toArray, List.map_cons, List.map_nil]); first | done | rfl | (simp only [List.length_drop, List.length_take]; rfl)) ?_
            with_reducible refine (GV.Join.calls _ _ t102 (⟨#[32]⟩ : ByteArray) t107 _ ?side1 ?side2 A11.out).mono ?_
            (case side1 => repeat (first | exact (Kd.R_reads' HO104.out).2.2 | (with_reducible refine Kd.C_alloc ?_ _) | (with_reducible refine Kd.C_drewN ?_ _) | (with_reducible refine Kd.C_drew ?_)))
            (case side2 => exact (Kd.R_reads' HO104.out).2.1)
            rintro e w38 ⟨rfl, hb⟩
            refine ⟨_, rfl, ?_⟩
            have n0_ := Aside0.mk (Kd.R_below (by (with_reducible repeat (first | apply Kd.R_alloc | apply Kd.R_drewN | apply Kd.R_drew)); exact HO104.out) hb)
            have n1_ := Aside0.mk (blk_below (g := gb101) (o := .cells #[.string a0_0, .string a0_1] 76 (0, 0)) (by (with_reducible repeat (first | refine blk_drewN ?_ _ | refine blk_drew ?_ | refine blk_alloc ?_ _)); exact BK101.out) hb)
            have n2_ := Aside0.mk (below_step (by repeat (first | (with_reducible first | exact HB.out | apply below_alloc | apply pw_below_drewN | apply below_drew1 | refine below_set ?_ GE101.out) | exact HB.out)) hb)
            clear HO104
            clear BK101
            clear HB
            have HO104 := n0_
            have BK101 := n1_
            have HB := n2_
            clear n0_ n1_ n2_
            (try clear hb)
            (try clear hb2)
            (try clear hk)
            (try clear hi)
            refine hK.out _ _ ⟨(blk_cell BK101.out 0).trans rfl, (blk_cell BK101.out 1).trans rfl⟩ (fun hHeld => ?_)
            clear hK K
            refine norm_ (a' := ?_) ?_ ?_
            rotate_left
            · show Act.put _ (some 19) _ = _
              simp only [Act.put, List.setIfInBounds_toArray, List.set_cons_zero, List.set_cons_succ, i64_w, i32_w]
              rfl
            refine pure_ (i := 4) (N := some 22) (v := ?_) (a' := ?_) #[true, true, true, true, true, false] rfl rfl (by kernel_rfl) (fun _ _ _ h => h) (Or.inl ⟨by rfl, ?_⟩) ?_ ?_
            rotate_left
            · intro w'
              go_simp
              with_reducible rfl
            rotate_left
            · simp only [Act.put, List.setIfInBounds_toArray, List.set_cons_zero, List.set_cons_succ, i64_w, i32_w]
              rfl
            refine pure_ (i := 5) (N := some 17) (v := ?_) (a' := ?_) #[true, true, true, true, true, true] rfl rfl (by kernel_rfl) (fun _ _ _ h => h) (Or.inl ⟨by rfl, ?_⟩) ?_ ?_
            rotate_left
            · intro w'
              go_simp
              with_reducible rfl
            rotate_left
            · simp only [Act.put, List.setIfInBounds_toArray, List.set_cons_zero, List.set_cons_succ, i64_w, i32_w]
              rfl
            refine done_ (by kernel_rfl) ?_
            have hcz39_0 : w38.cell? ⟨gb101, 0, none⟩ = some (.string a0_0) := (blk_cell BK101.out 0).trans rfl
            have hcz39_1 : w38.cell? ⟨gb101, 1, none⟩ = some (.string a0_1) := (blk_cell BK101.out 1).trans rfl
            have hfz39_0 := blk_frozen BK101.out 0
            have hfz39_1 := blk_frozen BK101.out 1
            try go_wp2_with (first | (go_at_call 119; (with_reducible refine (GV.someLong.calls _ _ t102 (Value.func (.func 120) #[] #[]) false _ ?side1 ?side2 A22.out).mono ?_); (case side1 => repeat (first | exact (Kd.R_reads' HO104.out).2.2 | (with_reducible refine Kd.C_alloc ?_ _) | (with_reducible refine Kd.C_drewN ?_ _) | (with_reducible refine Kd.C_drew ?_))); (case side2 => exact (Kd.R_reads' HO104.out).2.1); rintro e w' ⟨rfl, ⟨nd, rfl⟩⟩))
            go_ret
            exact ⟨by first | rfl | (simp [errW_none, errW_some] <;> rfl) | (simp [*, errW_none, errW_some] <;> rfl), by repeat (first | (with_reducible first | exact HB.out | apply below_alloc | apply pw_below_drewN | apply below_drew1 | refine below_set ?_ GE101.out) | exact HB.out)⟩
      · rw [if_neg c12] at H
        have c12b0 : (t107.toList == a0_1.toList) = false := beq_eq_false_iff_ne.mpr c12
        have c12b1 : (t107.toList != a0_1.toList) = true := bne_iff_ne.mpr c12
        obtain rfl := Option.some.inj H
        go_enter Tryz.func89, Tryz.ntmps89
        try go_wp2_with (first | ((with_reducible refine gate_dst (N := 1) rfl ?_); refine box_event ?hg (N := 1) ?hd (cs := #[.string a0_0, .string a0_1]) (t := 76) ?hr ?_; (case hd => rfl); (case hg => rfl); (case hr => first | (go_simp; done) | (go_simp; rfl)); intro gb101 hg w40 hbox hb; have n0_ := Aside0.mk (below_step (by repeat (first | (with_reducible first | exact HB.out | apply below_alloc | apply pw_below_drewN | apply below_drew1) | exact HB.out)) hb); have n1_ := Aside0.mk (hbox); have n2_ := Aside0.mk ((by rw [hg]; exact (below_size (by repeat (first | (with_reducible first | exact HB.out | apply below_alloc | apply pw_below_drewN | apply below_drew1) | exact HB.out))) : w.heap.size ≤ gb101)); have n3_ := Aside0.mk ((by rw [hg]; exact (below_size (by repeat (first | (with_reducible first | exact HB.out | apply below_alloc | apply pw_below_drewN | apply below_drew1) | exact HB.out))) : w.heap.size ≤ gb101)); clear HB; have HB := n0_; have BK101 := n1_; have GW101 := n2_; have GE101 := n3_; clear n0_ n1_ n2_ n3_; clear hb hbox hg; have hcz41_0 : w40.cell? ⟨gb101, 0, none⟩ = some (.string a0_0) := (blk_cell BK101.out 0).trans rfl; have hcz41_1 : w40.cell? ⟨gb101, 1, none⟩ = some (.string a0_1) := (blk_cell BK101.out 1).trans rfl; have hfz41_0 := blk_frozen BK101.out 0; have hfz41_1 := blk_frozen BK101.out 1) | ((with_reducible refine gate_callee (f := 90) rfl ?_); refine goesL_ (some 6) rfl rfl Tryz.func90 (by kernel_rfl) rfl #[.string a0_1] rfl (by (try simp only [List.map_toArray, List.map_cons, List.map_nil]); first | done | rfl | (simp only [List.length_drop, List.length_take]; rfl)) ?_; (with_reducible refine (GV.Words.calls a0_1 t102 _ A2.out).mono ?_); rintro e w42 ⟨v103, rfl, ho0, hb⟩; refine ⟨_, rfl, ?_⟩; have n0_ := Aside0.mk (Kd.R_lower ho0 (below_size (by repeat (first | (with_reducible first | exact HB.out | apply below_alloc | apply pw_below_drewN | apply below_drew1 | refine below_set ?_ GE101.out) | exact HB.out)))); have n1_ := Aside0.mk (blk_below (g := gb101) (o := .cells #[.string a0_0, .string a0_1] 76 (0, 0)) (by (with_reducible repeat (first | refine blk_drewN ?_ _ | refine blk_drew ?_ | refine blk_alloc ?_ _)); exact BK101.out) hb); have n2_ := Aside0.mk (below_step (by repeat (first | (with_reducible first | exact HB.out | apply below_alloc | apply pw_below_drewN | apply below_drew1 | refine below_set ?_ GE101.out) | exact HB.out)) hb); clear BK101; clear HB; have HO104 := n0_; have BK101 := n1_; have HB := n2_; clear n0_ n1_ n2_; (try clear hb); (try clear hb2); (try clear hk); (try clear hi); (try clear ho0); have hcz43_0 : w42.cell? ⟨gb101, 0, none⟩ = some (.string a0_0) := (blk_cell BK101.out 0).trans rfl; have hcz43_1 : w42.cell? ⟨gb101, 1, none⟩ = some (.string a0_1) := (blk_cell BK101.out 1).trans rfl; have hfz43_0 := blk_frozen BK101.out 0; have hfz43_1 := blk_frozen BK101.out 1) | ((with_reducible refine gate_callee (f := 116) rfl ?_); refine goesL_ (some 10) rfl rfl Tryz.func116 (by kernel_rfl) rfl #[.string a0_0] rfl (by (try simp only [List.map_toArray, List.map_cons, List.map_nil]); first | done | rfl | (simp only [List.length_drop, List.length_take]; rfl)) ?_; (with_reducible refine (PA.field_ValidName.calls k a0_0 true _ A3.out).mono ?_); rintro e w' ⟨rfl, ⟨nd, rfl⟩⟩; refine ⟨_, rfl, ?_⟩) | ((with_reducible refine gate_callee (f := 117) rfl ?_); refine goesL_ (some 15) rfl rfl Tryz.func117 (by kernel_rfl) rfl #[.string a0_1] rfl (by (try simp only [List.map_toArray, List.map_cons, List.map_nil]); first | done | rfl | (simp only [List.length_drop, List.length_take]; rfl)) ?_; (with_reducible refine (GV.Printable.calls a0_1 t106 _ A5.out).mono ?_); rintro e w' ⟨rfl, ⟨nd, rfl⟩⟩; refine ⟨_, rfl, ?_⟩))
        (try (rw [drewN_self w42]; generalize hq_ : World.drewN w42 _ = w42; have n0_ : Aside0 (Kd.R Kd.string 9 w42 w.heap.size (fun _ => True) v103 t102) := ⟨by rw [← hq_]; exact (by (with_reducible repeat (first | apply Kd.R_alloc | apply Kd.R_drewN | apply Kd.R_drew)); exact HO104.out)⟩; have n1_ : Aside0 (w42.heap[gb101]? = some (.cells #[.string a0_0, .string a0_1] 76 (0, 0))) := ⟨by rw [← hq_]; exact (by (with_reducible repeat (first | refine blk_drewN ?_ _ | refine blk_drew ?_ | refine blk_alloc ?_ _)); exact BK101.out)⟩; have n2_ : Aside0 (Below w.heap.size w w42) := ⟨by rw [← hq_]; exact (by repeat (first | (with_reducible first | exact HB.out | apply below_alloc | apply pw_below_drewN | apply below_drew1 | refine below_set ?_ GE101.out) | exact HB.out))⟩; clear HO104 BK101 HB hq_; have HO104 := n0_; have BK101 := n1_; have HB := n2_; clear n0_ n1_ n2_))
        have n0_ := Aside0.mk (Kd.R_drew HO104.out)
        have n1_ := Aside0.mk (blk_drew BK101.out)
        have n2_ := Aside0.mk (below_drew1 HB.out)
        clear HO104
        clear BK101
        clear HB
        have HO104 := n0_
        have BK101 := n1_
        have HB := n2_
        clear n0_ n1_ n2_
        obtain ⟨Ao45, co45, eo45⟩ := Kd.R_slice HO104.out
        (first | subst eo45 | (injection eo45 with f1_ f2_ f3_; have f4_ := f1_.symm; have f5_ := f3_.symm; clear f1_ f2_ f3_; subst f4_; subst f5_))
        refine start_ (n := 6) (S := fun w' => w'.cell? ⟨gb101, 0, none⟩ = some (.string a0_0) ∧ w'.cell? ⟨gb101, 1, none⟩ = some (.string a0_1)) (ds := []) #[false, false, false, false, false, false] (by kernel_rfl) rfl rfl ⟨(blk_cell BK101.out 0).trans rfl, (blk_cell BK101.out 1).trans rfl⟩ (fun hHeld => ?_)
        generalize w42.drew = w44 at HO104 BK101 HB hHeld ⊢
        refine pure_ (i := 0) (N := some 18) (v := ?_) (a' := ?_) #[true, false, false, false, false, false] rfl rfl (by kernel_rfl) (fun _ _ _ h => h) (Or.inl ⟨by rfl, ?_⟩) ?_ ?_
        rotate_left
        · intro w'
          go_simp
          with_reducible rfl
        rotate_left
        · simp only [Act.put, List.setIfInBounds_toArray, List.set_cons_zero, List.set_cons_succ, i64_w, i32_w]
          rfl
        refine pure_ (i := 2) (N := some 20) (v := ?_) (a' := ?_) #[true, false, true, false, false, false] rfl rfl (by kernel_rfl) (fun _ _ _ h => h) (Or.inl ⟨by rfl, ?_⟩) ?_ ?_
        rotate_left
        · intro w'
          go_simp
          with_reducible rfl
        rotate_left
        · simp only [Act.put, List.setIfInBounds_toArray, List.set_cons_zero, List.set_cons_succ, i64_w, i32_w]
          rfl
        refine take_ (i := 3) (N := some 21) (v := ?_) (a' := ?_) #[true, false, true, true, false, false] rfl rfl (by kernel_rfl) (fun _ _ _ h => h) (Or.inl ⟨by rfl, ?_⟩) hHeld ?_ ?_
        rotate_left
        · rintro w' ⟨s0, s1⟩
          go_simp
          with_reducible rfl
        rotate_left
        · simp only [Act.put, List.setIfInBounds_toArray, List.set_cons_zero, List.set_cons_succ, i64_w, i32_w]
          rfl
        refine one_ (i := 1) (N := some 19) #[true, true, true, true, false, false] rfl rfl (by kernel_rfl) (by decide) (fun K hK => ?_)
        refine goes_ Tryz.func118 (by kernel_rfl) rfl #[.slice Ao45 t102.length co45, .string (⟨#[32]⟩ : ByteArray)] (by rfl) rfl rfl (by (try simp only [List.map_toArray, List.map_cons, List.map_nil]); first | done | rfl | (simp only [List.length_drop, List.length_take]; rfl)) ?_
        with_reducible refine (GV.Join.calls _ _ t102 (⟨#[32]⟩ : ByteArray) t107 _ ?side1 ?side2 A11.out).mono ?_
        (case side1 => repeat (first | exact (Kd.R_reads' HO104.out).2.2 | (with_reducible refine Kd.C_alloc ?_ _) | (with_reducible refine Kd.C_drewN ?_ _) | (with_reducible refine Kd.C_drew ?_)))
        (case side2 => exact (Kd.R_reads' HO104.out).2.1)
        rintro e w46 ⟨rfl, hb⟩
        refine ⟨_, rfl, ?_⟩
        have n0_ := Aside0.mk (Kd.R_below (by (with_reducible repeat (first | apply Kd.R_alloc | apply Kd.R_drewN | apply Kd.R_drew)); exact HO104.out) hb)
        have n1_ := Aside0.mk (blk_below (g := gb101) (o := .cells #[.string a0_0, .string a0_1] 76 (0, 0)) (by (with_reducible repeat (first | refine blk_drewN ?_ _ | refine blk_drew ?_ | refine blk_alloc ?_ _)); exact BK101.out) hb)
        have n2_ := Aside0.mk (below_step (by repeat (first | (with_reducible first | exact HB.out | apply below_alloc | apply pw_below_drewN | apply below_drew1 | refine below_set ?_ GE101.out) | exact HB.out)) hb)
        clear HO104
        clear BK101
        clear HB
        have HO104 := n0_
        have BK101 := n1_
        have HB := n2_
        clear n0_ n1_ n2_
        (try clear hb)
        (try clear hb2)
        (try clear hk)
        (try clear hi)
        refine hK.out _ _ ⟨(blk_cell BK101.out 0).trans rfl, (blk_cell BK101.out 1).trans rfl⟩ (fun hHeld => ?_)
        clear hK K
        refine norm_ (a' := ?_) ?_ ?_
        rotate_left
        · show Act.put _ (some 19) _ = _
          simp only [Act.put, List.setIfInBounds_toArray, List.set_cons_zero, List.set_cons_succ, i64_w, i32_w]
          rfl
        refine pure_ (i := 4) (N := some 22) (v := ?_) (a' := ?_) #[true, true, true, true, true, false] rfl rfl (by kernel_rfl) (fun _ _ _ h => h) (Or.inl ⟨by rfl, ?_⟩) ?_ ?_
        rotate_left
        · intro w'
          go_simp
          with_reducible rfl
        rotate_left
        · simp only [Act.put, List.setIfInBounds_toArray, List.set_cons_zero, List.set_cons_succ, i64_w, i32_w]
          rfl
        refine pure_ (i := 5) (N := some 17) (v := ?_) (a' := ?_) #[true, true, true, true, true, true] rfl rfl (by kernel_rfl) (fun _ _ _ h => h) (Or.inl ⟨by rfl, ?_⟩) ?_ ?_
        rotate_left
        · intro w'
          go_simp
          with_reducible rfl
        rotate_left
        · simp only [Act.put, List.setIfInBounds_toArray, List.set_cons_zero, List.set_cons_succ, i64_w, i32_w]
          rfl
        refine done_ (by kernel_rfl) ?_
        try go_wp2
        go_ret
        exact ⟨by first | rfl | (simp [errW_none, errW_some] <;> rfl) | (simp [*, errW_none, errW_some] <;> rfl), by repeat (first | (with_reducible first | exact HB.out | apply below_alloc | apply pw_below_drewN | apply below_drew1 | refine below_set ?_ GE101.out) | exact HB.out)⟩
  · replace c4 := Bool.eq_false_iff.mpr c4
    subst c4
    have H1 : (some 12) = some r := by rw [if_neg (show ¬ (false = true) by decide)] at H; exact H
    clear H
    have H := H1
    clear H1
    obtain rfl := Option.some.inj H
    go_enter Tryz.func89, Tryz.ntmps89
    go_wp2_with (first | ((with_reducible refine gate_dst (N := 1) rfl ?_); refine box_event ?hg (N := 1) ?hd (cs := #[.string a0_0, .string a0_1]) (t := 76) ?hr ?_; (case hd => rfl); (case hg => rfl); (case hr => first | (go_simp; done) | (go_simp; rfl)); intro gb101 hg w47 hbox hb; have n0_ := Aside0.mk (below_step (by repeat (first | (with_reducible first | exact HB.out | apply below_alloc | apply pw_below_drewN | apply below_drew1) | exact HB.out)) hb); have n1_ := Aside0.mk (hbox); have n2_ := Aside0.mk ((by rw [hg]; exact (below_size (by repeat (first | (with_reducible first | exact HB.out | apply below_alloc | apply pw_below_drewN | apply below_drew1) | exact HB.out))) : w.heap.size ≤ gb101)); have n3_ := Aside0.mk ((by rw [hg]; exact (below_size (by repeat (first | (with_reducible first | exact HB.out | apply below_alloc | apply pw_below_drewN | apply below_drew1) | exact HB.out))) : w.heap.size ≤ gb101)); clear HB; have HB := n0_; have BK101 := n1_; have GW101 := n2_; have GE101 := n3_; clear n0_ n1_ n2_ n3_; clear hb hbox hg; have hcz48_0 : w47.cell? ⟨gb101, 0, none⟩ = some (.string a0_0) := (blk_cell BK101.out 0).trans rfl; have hcz48_1 : w47.cell? ⟨gb101, 1, none⟩ = some (.string a0_1) := (blk_cell BK101.out 1).trans rfl; have hfz48_0 := blk_frozen BK101.out 0; have hfz48_1 := blk_frozen BK101.out 1) | ((with_reducible refine gate_callee (f := 90) rfl ?_); refine goesL_ (some 6) rfl rfl Tryz.func90 (by kernel_rfl) rfl #[.string a0_1] rfl (by (try simp only [List.map_toArray, List.map_cons, List.map_nil]); first | done | rfl | (simp only [List.length_drop, List.length_take]; rfl)) ?_; (with_reducible refine (GV.Words.calls a0_1 t102 _ A2.out).mono ?_); rintro e w49 ⟨v103, rfl, ho0, hb⟩; refine ⟨_, rfl, ?_⟩; have n0_ := Aside0.mk (Kd.R_lower ho0 (below_size (by repeat (first | (with_reducible first | exact HB.out | apply below_alloc | apply pw_below_drewN | apply below_drew1 | refine below_set ?_ GE101.out) | exact HB.out)))); have n1_ := Aside0.mk (blk_below (g := gb101) (o := .cells #[.string a0_0, .string a0_1] 76 (0, 0)) (by (with_reducible repeat (first | refine blk_drewN ?_ _ | refine blk_drew ?_ | refine blk_alloc ?_ _)); exact BK101.out) hb); have n2_ := Aside0.mk (below_step (by repeat (first | (with_reducible first | exact HB.out | apply below_alloc | apply pw_below_drewN | apply below_drew1 | refine below_set ?_ GE101.out) | exact HB.out)) hb); clear BK101; clear HB; have HO104 := n0_; have BK101 := n1_; have HB := n2_; clear n0_ n1_ n2_; (try clear hb); (try clear hb2); (try clear hk); (try clear hi); (try clear ho0); have hcz50_0 : w49.cell? ⟨gb101, 0, none⟩ = some (.string a0_0) := (blk_cell BK101.out 0).trans rfl; have hcz50_1 : w49.cell? ⟨gb101, 1, none⟩ = some (.string a0_1) := (blk_cell BK101.out 1).trans rfl; have hfz50_0 := blk_frozen BK101.out 0; have hfz50_1 := blk_frozen BK101.out 1) | ((with_reducible refine gate_callee (f := 116) rfl ?_); refine goesL_ (some 10) rfl rfl Tryz.func116 (by kernel_rfl) rfl #[.string a0_0] rfl (by (try simp only [List.map_toArray, List.map_cons, List.map_nil]); first | done | rfl | (simp only [List.length_drop, List.length_take]; rfl)) ?_; (with_reducible refine (PA.field_ValidName.calls k a0_0 false _ A3.out).mono ?_); rintro e w' ⟨rfl, ⟨nd, rfl⟩⟩; refine ⟨_, rfl, ?_⟩))
    go_ret
    exact ⟨by first | rfl | (simp [errW_none, errW_some] <;> rfl) | (simp [*, errW_none, errW_some] <;> rfl), by repeat (first | (with_reducible first | exact HB.out | apply below_alloc | apply pw_below_drewN | apply below_drew1 | refine below_set ?_ GE101.out) | exact HB.out)⟩

end Go.Proofs.YtfeciafdioepiaaGreatDoor.PB
