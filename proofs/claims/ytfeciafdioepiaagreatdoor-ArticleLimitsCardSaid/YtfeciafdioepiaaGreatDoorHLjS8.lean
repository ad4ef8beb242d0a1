/- The steps of article's parser.; The steps of article's parser: the header.; Article's Parse.; A law for a loop over an iterator, at the wide fence: the iterator says how it m -/
import Derived.Test.YtfeciafdioepiaaGreatDoorHLjS2
import Derived.Test.YtfeciafdioepiaaGreatDoorHLjS5
import Derived.Test.YtfeciafdioepiaaGreatDoorHLjS7
import Derived.Test.YtfeciafdioepiaaGreatDoorHLjS6
import Derived.Test.YtfeciafdioepiaaGreatDoorProg
import Derived.Below
import Derived.Deep.Draws
import Derived.Deep.AppendLies
import Derived.Maps.AppendAt
import Derived.OwnWalk
import Derived.Laws.BytesArg
import Derived.Laws.MakeOwn
import Derived.Laws.OwnMore
import Derived.Deep.OwnRows
import Derived.Tactics
import Derived.Lib.ConvBytes
import Derived.Laws.Slices
import Derived.WalkKit
import Derived.KernelRfl
import Derived.RowKit3
import Derived.Deep.LoopGhost
import Derived.Deep.QuietTactic
import Derived.BigQuiet
import Derived.WideLaws
import Derived.Deep.DeepCutAuto
import Derived.Deep.CutBlock
import Derived.Deep.RegionHeld3
import Derived.Laws.Rows
import Derived.Lib.AppendStr
import Derived.ArgAppend
import Derived.Laws.IdiomCopy
import Derived.OrdersHeld
import Derived.Laws.BitsLemmas
import Derived.RowKit
import Derived.Test.YtfeciafdioepiaaGreatDoorHLjS0
import Derived.Test.YtfeciafdioepiaaGreatDoorHLjS1
import Derived.Laws.StructEq
import Derived.Deep.RegionWith
import Derived.RangeFuncFrom
import Derived.RangeFuncCalls
import Derived.Shelf.Abstract
import Derived.Shelf.RegionOpen
import Derived.OwnWalkIn
import Derived.TacticsInMore
import Derived.LoopNIn
import Derived.LoopIn
namespace Go.Proofs.YtfeciafdioepiaaGreatDoor.PA
open Go.RowKit Go.Proofs.YtfeciafdioepiaaGreatDoorW.PrintWords Go.Proofs.YtfeciafdioepiaaGreatDoorW.PrintLast Go.Proofs.YtfeciafdioepiaaGreatDoorW.PrintMore
attribute [local go_sem] max2_int min2_int max_two min_two max_three min_three max_four min_four   -- for this text's walks alone
set_option linter.unusedVariables false
set_option linter.unusedSimpArgs false

/-! ### bulletinlaw15_back: function 19 -/
def bulletinlaw15_back.l0 : Nat → Int → List (S78) → ByteArray → List (S76) → ByteArray → Option ((List (S76)) × ByteArray)
  | 0, _, _, _, _, _ => none
  | k + 1, x4, x196000, x196001, x198000, x198001 => if x4 < (x196000.length : Int) then (if 0 ≤ x4 then (if x198000.length < 4398046511104 then (bulletinlaw15_back.l0 k (wrap64 (x4 + 1)) x196000 x196001 (x198000 ++ [(⟨(rd_T78 x196000 x4).f0, (rd_T78 x196000 x4).f1⟩ : S76)]) x198001) else (none)) else (none)) else (some (x198000, x198001))
def bulletinlaw15_back.f (k : Nat) (l0_0 : List (S78)) (a0_1 : ByteArray) : Option ((List (S76)) × ByteArray) := bulletinlaw15_back.l0 k 0 l0_0 a0_1 ([] : List (S76)) a0_1
def bulletinlaw15_back.T5 : Bool × List (List Nat × List Nat) := (true, [([], []), ([0], [0]), ([], []), ([2], [2]), ([], []), ([3, 4], [3, 4]), ([5], [5]), ([6], [6]), ([], []), ([8], [8]), ([], []), ([9, 10], [9, 10]), ([11], [11]), ([12], [12]), ([7, 13], [7, 13]), ([14], [14]), ([1, 15], [1, 15]), ([0, 1, 2, 3, 4, 5, 6, 7, 8, 9, 10, 11, 12, 13, 14, 15, 16], []), ([17, 16, 16, 0, 1, 2, 3, 4, 5, 6, 7, 8, 9, 10, 11, 12, 13, 14, 15, 16], [16, 17])])
def bulletinlaw15_back.B5 : List Nat := [0, 1, 0, 4, 0, 28, 60, 124, 0, 256, 0, 1792, 3840, 7936, 16380, 32764, 65535, 131071, 262143]
theorem bulletinlaw15_back.tab5 : rtab .any (opsOf Tryz.f19 5) = bulletinlaw15_back.T5 := by kernel_rfl
theorem bulletinlaw15_back.bits5 : waitsOk bulletinlaw15_back.T5.2 bulletinlaw15_back.B5 = true := by kernel_rfl
set_option maxHeartbeats 8000000 in
set_option maxRecDepth 100000 in
theorem bulletinlaw15_back.calls (k : Nat) (A0_0 : Option Addr) (c0_0 : Nat) (l0_0 : List (S78)) (a0_1 : ByteArray) (r1 : List (S76)) (r2 : ByteArray) (w : World) (hr0_0 : Kd.C k78 w A0_0 l0_0.length l0_0) (hc0_0 : l0_0.length ≤ c0_0) (h : bulletinlaw15_back.f k l0_0 a0_1 = some (r1, r2)) :
    Calls Tryz.prog 19 #[.agg #[.slice A0_0 l0_0.length c0_0, .string a0_1]] w fun e w' => ∃ v0_ : Value, e = .returned (.agg #[v0_, .string r2]) ∧ Kd.R k76 76 w' w.heap.size (fun _ => True) v0_ r1 ∧ Below w.heap.size w w' := by
  have hu31 := Tryz.underlying31
  have hu25 := Tryz.underlying25
  have hu76 := Tryz.underlying76
  have HR0_0 := Aside0.mk hr0_0
  have HC0_0 := Aside0.mk hc0_0
  clear hr0_0 hc0_0
  have HB := Aside0.mk (Below.refl w.heap.size w)
  have H : (bulletinlaw15_back.l0 k 0 l0_0 a0_1 ([] : List (S76)) a0_1) = some (r1, r2) := h
  clear h
  have H' := Aside0.mk H
  clear H
  go_enter Tryz.func19, Tryz.ntmps19
  go_wp2_with (first | ((with_reducible refine gate_dst (N := 1) rfl ?_); refine box_event ?hg (N := 1) ?hd (cs := #[.slice A0_0 l0_0.length c0_0, .string a0_1]) (t := 31) ?hr ?_; (case hd => rfl); (case hg => rfl); (case hr => first | (go_simp; done) | (go_simp; rfl)); intro gb195 hg w2 hbox hb; have n0_ := Aside0.mk (below_step (by repeat (first | (with_reducible first | exact HB.out | apply below_alloc | apply pw_below_drewN | apply below_drew1) | exact HB.out)) hb); have n1_ := Aside0.mk (hbox); have n2_ := Aside0.mk ((by rw [hg]; exact (below_size (by repeat (first | (with_reducible first | exact HB.out | apply below_alloc | apply pw_below_drewN | apply below_drew1) | exact HB.out))) : w.heap.size ≤ gb195)); have n3_ := Aside0.mk ((by rw [hg]; exact (below_size (by repeat (first | (with_reducible first | exact HB.out | apply below_alloc | apply pw_below_drewN | apply below_drew1) | exact HB.out))) : w.heap.size ≤ gb195)); clear HB; have HB := n0_; have BK195 := n1_; have GW195 := n2_; have GE195 := n3_; clear n0_ n1_ n2_ n3_; clear hb hbox hg) | ((with_reducible refine gate_dst (N := 2) rfl ?_); refine box_event ?hg (N := 2) ?hd (cs := #[.slice none 0 0, .string (⟨#[]⟩ : ByteArray)]) (t := 25) ?hr ?_; (case hd => rfl); (case hg => rfl); (case hr => first | (go_simp; done) | (go_simp; rfl)); intro gb196 hg w3 hbox hb; have n0_ := Aside0.mk (blk_below (g := gb195) (o := .cells #[.slice A0_0 l0_0.length c0_0, .string a0_1] 31 (0, 0)) (by (with_reducible repeat (first | refine blk_drewN ?_ _ | refine blk_drew ?_ | refine blk_alloc ?_ _)); exact BK195.out) hb); have n1_ := Aside0.mk (below_step (by repeat (first | (with_reducible first | exact HB.out | apply below_alloc | apply pw_below_drewN | apply below_drew1 | refine below_set ?_ GE195.out) | exact HB.out)) hb); have n2_ := Aside0.mk (hbox); have n3_ := Aside0.mk ((by rw [hg]; exact (below_size (by repeat (first | (with_reducible first | exact HB.out | apply below_alloc | apply pw_below_drewN | apply below_drew1 | refine below_set ?_ GE195.out) | exact HB.out))) : w.heap.size ≤ gb196)); have n4_ := Aside0.mk ((by rw [hg]; exact (below_size (by repeat (first | (with_reducible first | exact HB.out | apply below_alloc | apply pw_below_drewN | apply below_drew1 | refine below_set ?_ GE195.out) | exact HB.out))) : w.heap.size ≤ gb196)); have n5_ := Aside0.mk ((by rw [hg]; exact Nat.ne_of_lt (blk_lt (g := gb195) (o := .cells #[.slice A0_0 l0_0.length c0_0, .string a0_1] 31 (0, 0)) (by (with_reducible repeat (first | refine blk_drewN ?_ _ | refine blk_drew ?_ | refine blk_alloc ?_ _)); exact BK195.out)) : gb195 ≠ gb196)); have n6_ := Aside0.mk ((by rw [hg]; exact Nat.ne_of_gt (blk_lt (g := gb195) (o := .cells #[.slice A0_0 l0_0.length c0_0, .string a0_1] 31 (0, 0)) (by (with_reducible repeat (first | refine blk_drewN ?_ _ | refine blk_drew ?_ | refine blk_alloc ?_ _)); exact BK195.out)) : gb196 ≠ gb195)); clear BK195; clear HB; have BK195 := n0_; have HB := n1_; have BK196 := n2_; have GW196 := n3_; have GE196 := n4_; have NB195_196 := n5_; have NB196_195 := n6_; clear n0_ n1_ n2_ n3_ n4_ n5_ n6_; clear hb hbox hg; have hnb4 := NB195_196.out; have hnc4 := NB196_195.out; have hcz5_0 : w3.cell? ⟨gb195, 0, none⟩ = some (.slice A0_0 l0_0.length c0_0) := (blk_cell BK195.out 0).trans rfl; have hcz5_1 : w3.cell? ⟨gb195, 1, none⟩ = some (.string a0_1) := (blk_cell BK195.out 1).trans rfl; have hfz5_0 := blk_frozen BK195.out 0; have hfz5_1 := blk_frozen BK195.out 1) | ((with_reducible refine gate_dst (N := 3) rfl ?_); refine box_event ?hg (N := 3) ?hd (cs := #[.slice none 0 0, .string (⟨#[]⟩ : ByteArray)]) (t := 25) ?hr ?_; (case hd => rfl); (case hg => rfl); (case hr => first | (go_simp; done) | (go_simp; rfl)); intro gb197 hg w6 hbox hb; have n0_ := Aside0.mk (blk_below (g := gb195) (o := .cells #[.slice A0_0 l0_0.length c0_0, .string a0_1] 31 (0, 0)) (by (with_reducible repeat (first | refine blk_drewN ?_ _ | refine blk_drew ?_ | refine blk_alloc ?_ _)); exact BK195.out) hb); have n1_ := Aside0.mk (blk_below (g := gb196) (o := .cells #[.slice none 0 0, .string (⟨#[]⟩ : ByteArray)] 25 (0, 0)) (by (with_reducible repeat (first | refine blk_drewN ?_ _ | refine blk_drew ?_ | refine blk_alloc ?_ _)); exact BK196.out) hb); have n2_ := Aside0.mk (below_step (by repeat (first | (with_reducible first | exact HB.out | apply below_alloc | apply pw_below_drewN | apply below_drew1 | refine below_set ?_ GE195.out | refine below_set ?_ GE196.out) | exact HB.out)) hb); have n3_ := Aside0.mk (hbox); have n4_ := Aside0.mk ((by rw [hg]; exact (below_size (by repeat (first | (with_reducible first | exact HB.out | apply below_alloc | apply pw_below_drewN | apply below_drew1 | refine below_set ?_ GE195.out | refine below_set ?_ GE196.out) | exact HB.out))) : w.heap.size ≤ gb197)); have n5_ := Aside0.mk ((by rw [hg]; exact (below_size (by repeat (first | (with_reducible first | exact HB.out | apply below_alloc | apply pw_below_drewN | apply below_drew1 | refine below_set ?_ GE195.out | refine below_set ?_ GE196.out) | exact HB.out))) : w.heap.size ≤ gb197)); have n6_ := Aside0.mk ((by rw [hg]; exact Nat.ne_of_lt (blk_lt (g := gb195) (o := .cells #[.slice A0_0 l0_0.length c0_0, .string a0_1] 31 (0, 0)) (by (with_reducible repeat (first | refine blk_drewN ?_ _ | refine blk_drew ?_ | refine blk_alloc ?_ _)); exact BK195.out)) : gb195 ≠ gb197)); have n7_ := Aside0.mk ((by rw [hg]; exact Nat.ne_of_gt (blk_lt (g := gb195) (o := .cells #[.slice A0_0 l0_0.length c0_0, .string a0_1] 31 (0, 0)) (by (with_reducible repeat (first | refine blk_drewN ?_ _ | refine blk_drew ?_ | refine blk_alloc ?_ _)); exact BK195.out)) : gb197 ≠ gb195)); have n8_ := Aside0.mk ((by rw [hg]; exact Nat.ne_of_lt (blk_lt (g := gb196) (o := .cells #[.slice none 0 0, .string (⟨#[]⟩ : ByteArray)] 25 (0, 0)) (by (with_reducible repeat (first | refine blk_drewN ?_ _ | refine blk_drew ?_ | refine blk_alloc ?_ _)); exact BK196.out)) : gb196 ≠ gb197)); have n9_ := Aside0.mk ((by rw [hg]; exact Nat.ne_of_gt (blk_lt (g := gb196) (o := .cells #[.slice none 0 0, .string (⟨#[]⟩ : ByteArray)] 25 (0, 0)) (by (with_reducible repeat (first | refine blk_drewN ?_ _ | refine blk_drew ?_ | refine blk_alloc ?_ _)); exact BK196.out)) : gb197 ≠ gb196)); clear BK195; clear BK196; clear HB; have BK195 := n0_; have BK196 := n1_; have HB := n2_; have BK197 := n3_; have GW197 := n4_; have GE197 := n5_; have NB195_197 := n6_; have NB197_195 := n7_; have NB196_197 := n8_; have NB197_196 := n9_; clear n0_ n1_ n2_ n3_ n4_ n5_ n6_ n7_ n8_ n9_; clear hb hbox hg; have hnb7 := NB197_195.out; have hnc7 := NB195_197.out; have hnb8 := NB197_196.out; have hnc8 := NB196_197.out; have hcz9_0 : w6.cell? ⟨gb197, 0, none⟩ = some (.slice none 0 0) := (blk_cell BK197.out 0).trans rfl; have hcz9_1 : w6.cell? ⟨gb197, 1, none⟩ = some (.string (⟨#[]⟩ : ByteArray)) := (blk_cell BK197.out 1).trans rfl; have hfz9_0 := blk_frozen BK197.out 0; have hfz9_1 := blk_frozen BK197.out 1))
  go_loopg [4] k (fun kq v4 w' => ∃ (x4_1 : Int) (x198000_1 : List (S76)) (u198000 : Value), v4 = .int .i64 x4_1 ∧ Aside0 (bulletinlaw15_back.l0 kq x4_1 l0_0 a0_1 x198000_1 a0_1 = some (r1, r2)) ∧ Aside0 (kq ≤ k) ∧ Aside0 (Kd.R k76 76 w' w.heap.size (fun _ => True) u198000 x198000_1) ∧ Aside0 (w'.heap[gb195]? = some (.cells #[(.slice A0_0 l0_0.length c0_0), .string a0_1] 31 (0, 0))) ∧ Aside0 (w'.heap[gb196]? = some (.cells #[(.slice none 0 0), .string (⟨#[]⟩ : ByteArray)] 25 (0, 0))) ∧ Aside0 (w'.heap[gb197]? = some (.cells #[u198000, .string a0_1] 25 (0, 0))) ∧ Aside0 (Below w.heap.size w w'))
  case atStart => exact ⟨(0), (([] : List (S76))), (.slice none 0 0), (by first | rfl | (simp; done) | (simp [*]; done)), H', ⟨Nat.le_refl _⟩, ⟨by first | exact Kd.R_nil _ _ _ _ _ | exact Kd.N_nil _ _ _ _ _ | exact Kd.V_nil _ _ _ _ _ | exact Kd.Q_nil _ _ _ _ _ | exact Kd.S_nil _ _ _ _ _⟩, ⟨by (with_reducible repeat (first | refine blk_drewN ?_ _ | refine blk_drew ?_ | refine blk_alloc ?_ _)); refine blk_far ?_ NB195_197.out _; (with_reducible repeat (first | refine blk_drewN ?_ _ | refine blk_drew ?_ | refine blk_alloc ?_ _)); refine blk_far ?_ NB195_197.out _; (with_reducible repeat (first | refine blk_drewN ?_ _ | refine blk_drew ?_ | refine blk_alloc ?_ _)); exact BK195.out⟩, ⟨by (with_reducible repeat (first | refine blk_drewN ?_ _ | refine blk_drew ?_ | refine blk_alloc ?_ _)); refine blk_far ?_ NB196_197.out _; (with_reducible repeat (first | refine blk_drewN ?_ _ | refine blk_drew ?_ | refine blk_alloc ?_ _)); refine blk_far ?_ NB196_197.out _; (with_reducible repeat (first | refine blk_drewN ?_ _ | refine blk_drew ?_ | refine blk_alloc ?_ _)); exact BK196.out⟩, ⟨by (with_reducible repeat (first | refine blk_drewN ?_ _ | refine blk_drew ?_ | refine blk_alloc ?_ _)); refine blk_put (cs := #[.slice none 0 0, .string (⟨#[]⟩ : ByteArray)]) ?_ 1 _ rfl; (with_reducible repeat (first | refine blk_drewN ?_ _ | refine blk_drew ?_ | refine blk_alloc ?_ _)); refine blk_put (cs := #[.slice none 0 0, .string (⟨#[]⟩ : ByteArray)]) ?_ 0 _ rfl; (with_reducible repeat (first | refine blk_drewN ?_ _ | refine blk_drew ?_ | refine blk_alloc ?_ _)); exact BK197.out⟩, ⟨by repeat (first | (with_reducible first | exact HB.out | apply below_alloc | apply pw_below_drewN | apply below_drew1 | refine below_set ?_ GE195.out | refine below_set ?_ GE196.out | refine below_set ?_ GE197.out) | exact HB.out)⟩⟩
  case round =>
    clear H'
    try clear c1
    try clear p2
    try clear c4
    try clear c7
    try clear c8
    try clear hcz5_0
    try clear hcz5_1
    try clear hcz9_0
    try clear hcz9_1
    try clear hfz5_0
    try clear hfz5_1
    try clear hfz9_0
    try clear hfz9_1
    obtain ⟨x4_1, x198000_1, u198000, rfl, HA, HK1, HO_198000, BK195, BK196, BK197, HB⟩ := hrel
    cases gk with
    | zero => exact absurd HA.out (by simp [bulletinlaw15_back.l0])
    | succ k1 =>
      have H := HA.out
      clear HA
      simp only [bulletinlaw15_back.l0] at H
      by_cases c10 : x4_1 < (l0_0.length : Int)
      · rw [if_pos c10] at H
        have c10b0 : decide (x4_1 < (l0_0.length : Int)) = true := decide_eq_true c10
        clear c10
        by_cases c11 : 0 ≤ x4_1
        · rw [if_pos c11] at H
          have c11b0 : decide (0 ≤ x4_1) = true := decide_eq_true c11
          clear c11
          by_cases c12 : x198000_1.length < 4398046511104
          · rw [if_pos c12] at H
            have LMc12 := Aside0.mk c12
            clear c12
            obtain ⟨y200, hy200⟩ : ∃ y_ : List (S76), y_ = (x198000_1 ++ [(⟨(rd_T78 l0_0 x4_1).f0, (rd_T78 l0_0 x4_1).f1⟩ : S76)]) := ⟨_, rfl⟩
            replace H : (bulletinlaw15_back.l0 k1 (wrap64 (x4_1 + 1)) l0_0 a0_1 y200 a0_1) = some (r1, r2) := by first | (rw [hy200]; with_reducible exact H) | (have H2_ := (Option.bind_some _ _).symm.trans H; rw [hy200]; with_reducible exact H2_) | (have H2_ := (Option.bind_some _ _).symm.trans H; with_reducible exact H2_) | with_reducible exact H | (rw [hy200]; exact H) | exact H
            have Ny200 := Aside0.mk hy200
            clear hy200
            have H' := Aside0.mk H
            clear H
            have hnb13 := NB195_196.out
            have hnc13 := NB196_195.out
            have hnb14 := NB195_197.out
            have hnc14 := NB197_195.out
            have hcz15_0 : wr.cell? ⟨gb195, 0, none⟩ = some (.slice A0_0 l0_0.length c0_0) := (blk_cell BK195.out 0).trans rfl
            have hcz15_1 : wr.cell? ⟨gb195, 1, none⟩ = some (.string a0_1) := (blk_cell BK195.out 1).trans rfl
            have hfz15_0 := blk_frozen BK195.out 0
            have hfz15_1 := blk_frozen BK195.out 1
            try go_wp2
            have n0_ := Aside0.mk (Kd.R_drew HO_198000.out)
            have n1_ := Aside0.mk (blk_drew BK195.out)
            have n2_ := Aside0.mk (blk_drew BK196.out)
            have n3_ := Aside0.mk (blk_drew BK197.out)
            have n4_ := Aside0.mk (below_drew1 HB.out)
            clear HO_198000
            clear BK195
            clear BK196
            clear BK197
            clear HB
            have HO_198000 := n0_
            have BK195 := n1_
            have BK196 := n2_
            have BK197 := n3_
            have HB := n4_
            clear n0_ n1_ n2_ n3_ n4_
            have p198 : 0 ≤ (x4_1 : Int) := of_decide_eq_true (by first | (with_reducible assumption) | assumption)
            have q198 : x4_1 < (l0_0.length : Int) := of_decide_eq_true (by first | (with_reducible assumption) | assumption)
            obtain ⟨ad198, e198, hx198_0, hx198_1⟩ := at_T78 HR0_0.out x4_1 p198 q198
            have hw198_1 := hx198_1
            have hw198_0 := hx198_0
            cases e198
            replace hx198_0 := (HB.out.cell (World.block_lt_of_cell? w _ hx198_0)).trans hx198_0
            replace hx198_1 := (HB.out.cell (World.block_lt_of_cell? w _ hx198_1)).trans hx198_1
            replace p198 := eq_true p198
            replace q198 := eq_true q198
            have p199 : 0 ≤ (x4_1 : Int) := of_decide_eq_true (by first | (with_reducible assumption) | assumption)
            have q199 : x4_1 < (l0_0.length : Int) := of_decide_eq_true (by first | (with_reducible assumption) | assumption)
            obtain ⟨ad199, e199, hx199_0, hx199_1⟩ := at_T78 HR0_0.out x4_1 p199 q199
            have hw199_1 := hx199_1
            have hw199_0 := hx199_0
            obtain rfl : ad198 = ad199 := (by injection e199)
            replace hx199_0 := (HB.out.cell (World.block_lt_of_cell? w _ hx199_0)).trans hx199_0
            replace hx199_1 := (HB.out.cell (World.block_lt_of_cell? w _ hx199_1)).trans hx199_1
            replace p199 := eq_true p199
            replace q199 := eq_true q199
            refine start_ (n := 19) (S := fun w' => w'.cell? ⟨gb197, 0, none⟩ = some (u198000) ∧ w'.cell? ⟨gb197, 1, none⟩ = some (.string a0_1) ∧ w'.cell? ⟨gb195, 0, none⟩ = some (.slice (some ad198) l0_0.length c0_0) ∧ w'.cell? ⟨gb195, 1, none⟩ = some (.string a0_1) ∧ w'.cell? (ad198.add ((x4_1).toNat * 2)) = some (.string ((rd_T78 l0_0 x4_1).f0)) ∧ w'.cell? ⟨(ad198.add ((x4_1).toNat * 2)).block, (ad198.add ((x4_1).toNat * 2)).off + 1, none⟩ = some (.string ((rd_T78 l0_0 x4_1).f1)) ∧ w'.cell? (ad198.add ((x4_1).toNat * 2)) = some (.string ((rd_T78 l0_0 x4_1).f0)) ∧ w'.cell? ⟨(ad198.add ((x4_1).toNat * 2)).block, (ad198.add ((x4_1).toNat * 2)).off + 1, none⟩ = some (.string ((rd_T78 l0_0 x4_1).f1))) (ds := [18]) #[false, false, false, false, false, false, false, false, false, false, false, false, false, false, false, false, false, false, false] (by kernel_rfl) rfl rfl ⟨(blk_cell BK197.out 0).trans rfl, (blk_cell BK197.out 1).trans rfl, (blk_cell BK195.out 0).trans rfl, (blk_cell BK195.out 1).trans rfl, ((HB.out.cell (World.block_lt_of_cell? w _ hw198_0)).trans hw198_0), ((HB.out.cell (World.block_lt_of_cell? w _ hw198_1)).trans hw198_1), ((HB.out.cell (World.block_lt_of_cell? w _ hw199_0)).trans hw199_0), ((HB.out.cell (World.block_lt_of_cell? w _ hw199_1)).trans hw199_1)⟩ (fun hHeld => ?_); refine with_tabW bulletinlaw15_back.tab5 bulletinlaw15_back.bits5 (fun HT_ HW_ => ?_)
            generalize wr.drew = w16 at HO_198000 BK195 BK196 BK197 HB hx198_0 hx198_1 hx199_0 hx199_1 hHeld ⊢
            refine pure_ (i := 0) (N := some 15) (v := ?_) (a' := ?_) #[true, false, false, false, false, false, false, false, false, false, false, false, false, false, false, false, false, false, false] rfl rfl (any_of HT_.out (by kernel_rfl)) (fun _ _ _ h => h) (Or.inl ⟨by rfl, ?_⟩) ?_ ?_
            rotate_left
            · intro w'
              go_simp
              with_reducible rfl
            rotate_left
            · simp only [Act.put, List.setIfInBounds_toArray, List.set_cons_zero, List.set_cons_succ, i64_w, i32_w]
              rfl
            refine pure_ (i := 2) (N := some 17) (v := ?_) (a' := ?_) #[true, false, true, false, false, false, false, false, false, false, false, false, false, false, false, false, false, false, false] rfl rfl (any_of HT_.out (by kernel_rfl)) (fun _ _ _ h => h) (Or.inl ⟨by rfl, ?_⟩) ?_ ?_
            rotate_left
            · intro w'
              go_simp
              with_reducible rfl
            rotate_left
            · simp only [Act.put, List.setIfInBounds_toArray, List.set_cons_zero, List.set_cons_succ, i64_w, i32_w]
              rfl
            refine pure_ (i := 4) (N := some 19) (v := ?_) (a' := ?_) #[true, false, true, false, true, false, false, false, false, false, false, false, false, false, false, false, false, false, false] rfl rfl (any_of HT_.out (by kernel_rfl)) (fun _ _ _ h => h) (Or.inl ⟨by rfl, ?_⟩) ?_ ?_
            rotate_left
            · intro w'
              go_simp
              with_reducible rfl
            rotate_left
            · simp only [Act.put, List.setIfInBounds_toArray, List.set_cons_zero, List.set_cons_succ, i64_w, i32_w]
              rfl
            refine pure_ (i := 8) (N := some 23) (v := ?_) (a' := ?_) #[true, false, true, false, true, false, false, false, true, false, false, false, false, false, false, false, false, false, false] rfl rfl (any_of HT_.out (by kernel_rfl)) (fun _ _ _ h => h) (Or.inl ⟨by rfl, ?_⟩) ?_ ?_
            rotate_left
            · intro w'
              go_simp
              with_reducible rfl
            rotate_left
            · simp only [Act.put, List.setIfInBounds_toArray, List.set_cons_zero, List.set_cons_succ, i64_w, i32_w]
              rfl
            refine pure_ (i := 10) (N := some 25) (v := ?_) (a' := ?_) #[true, false, true, false, true, false, false, false, true, false, true, false, false, false, false, false, false, false, false] rfl rfl (any_of HT_.out (by kernel_rfl)) (fun _ _ _ h => h) (Or.inl ⟨by rfl, ?_⟩) ?_ ?_
            rotate_left
            · intro w'
              go_simp
              with_reducible rfl
            rotate_left
            · simp only [Act.put, List.setIfInBounds_toArray, List.set_cons_zero, List.set_cons_succ, i64_w, i32_w]
              rfl
            refine take_ (i := 1) (N := some 16) (v := ?_) (a' := ?_) #[true, true, true, false, true, false, false, false, true, false, true, false, false, false, false, false, false, false, false] rfl rfl (take_ofW HT_.out HW_.out (by kernel_rfl)) (fun _ _ _ h => h) (Or.inl ⟨by rfl, ?_⟩) hHeld ?_ ?_
            rotate_left
            · rintro w' ⟨s0, s1, s2, s3, s4, s5, s6, s7⟩
              go_simp
              with_reducible rfl
            rotate_left
            · simp only [Act.put, List.setIfInBounds_toArray, List.set_cons_zero, List.set_cons_succ, i64_w, i32_w]
              rfl
            refine take_ (i := 3) (N := some 18) (v := ?_) (a' := ?_) #[true, true, true, true, true, false, false, false, true, false, true, false, false, false, false, false, false, false, false] rfl rfl (take_ofW HT_.out HW_.out (by kernel_rfl)) (fun _ _ _ h => h) (Or.inl ⟨by rfl, ?_⟩) hHeld ?_ ?_
            rotate_left
            · rintro w' ⟨s0, s1, s2, s3, s4, s5, s6, s7⟩
              go_simp
              with_reducible rfl
            rotate_left
            · simp only [Act.put, List.setIfInBounds_toArray, List.set_cons_zero, List.set_cons_succ, i64_w, i32_w]
              rfl
            refine pure_ (i := 5) (N := some 20) (v := ?_) (a' := ?_) #[true, true, true, true, true, true, false, false, true, false, true, false, false, false, false, false, false, false, false] rfl rfl (any_of HT_.out (by kernel_rfl)) (fun _ _ _ h => h) (Or.inl ⟨by rfl, ?_⟩) ?_ ?_
            rotate_left
            · intro w'
              go_simp
              with_reducible rfl
            rotate_left
            · simp only [Act.put, List.setIfInBounds_toArray, List.set_cons_zero, List.set_cons_succ, i64_w, i32_w]
              rfl
            refine pure_ (i := 6) (N := some 21) (v := ?_) (a' := ?_) #[true, true, true, true, true, true, true, false, true, false, true, false, false, false, false, false, false, false, false] rfl rfl (any_of HT_.out (by kernel_rfl)) (fun _ _ _ h => h) (Or.inl ⟨by rfl, ?_⟩) ?_ ?_
            rotate_left
            · intro w'
              go_simp
              with_reducible rfl
            rotate_left
            · simp only [Act.put, List.setIfInBounds_toArray, List.set_cons_zero, List.set_cons_succ, i64_w, i32_w]
              rfl
            refine take_ (i := 7) (N := some 22) (v := ?_) (a' := ?_) #[true, true, true, true, true, true, true, true, true, false, true, false, false, false, false, false, false, false, false] rfl rfl (take_ofW HT_.out HW_.out (by kernel_rfl)) (fun _ _ _ h => h) (Or.inl ⟨by rfl, ?_⟩) hHeld ?_ ?_
            rotate_left
            · rintro w' ⟨s0, s1, s2, s3, s4, s5, s6, s7⟩
              go_simp
              with_reducible rfl
            rotate_left
            · simp only [Act.put, List.setIfInBounds_toArray, List.set_cons_zero, List.set_cons_succ, i64_w, i32_w]
              rfl
            refine take_ (i := 9) (N := some 24) (v := ?_) (a' := ?_) #[true, true, true, true, true, true, true, true, true, true, true, false, false, false, false, false, false, false, false] rfl rfl (take_ofW HT_.out HW_.out (by kernel_rfl)) (fun _ _ _ h => h) (Or.inl ⟨by rfl, ?_⟩) hHeld ?_ ?_
            rotate_left
            · rintro w' ⟨s0, s1, s2, s3, s4, s5, s6, s7⟩
              go_simp
              with_reducible rfl
            rotate_left
            · simp only [Act.put, List.setIfInBounds_toArray, List.set_cons_zero, List.set_cons_succ, i64_w, i32_w]
              rfl
            refine pure_ (i := 11) (N := some 26) (v := ?_) (a' := ?_) #[true, true, true, true, true, true, true, true, true, true, true, true, false, false, false, false, false, false, false] rfl rfl (any_of HT_.out (by kernel_rfl)) (fun _ _ _ h => h) (Or.inl ⟨by rfl, ?_⟩) ?_ ?_
            rotate_left
            · intro w'
              go_simp
              with_reducible rfl
            rotate_left
            · simp only [Act.put, List.setIfInBounds_toArray, List.set_cons_zero, List.set_cons_succ, i64_w, i32_w]
              rfl
            refine pure_ (i := 12) (N := some 27) (v := ?_) (a' := ?_) #[true, true, true, true, true, true, true, true, true, true, true, true, true, false, false, false, false, false, false] rfl rfl (any_of HT_.out (by kernel_rfl)) (fun _ _ _ h => h) (Or.inl ⟨by rfl, ?_⟩) ?_ ?_
            rotate_left
            · intro w'
              go_simp
              with_reducible rfl
            rotate_left
            · simp only [Act.put, List.setIfInBounds_toArray, List.set_cons_zero, List.set_cons_succ, i64_w, i32_w]
              rfl
            refine take_ (i := 13) (N := some 28) (v := ?_) (a' := ?_) #[true, true, true, true, true, true, true, true, true, true, true, true, true, true, false, false, false, false, false] rfl rfl (take_ofW HT_.out HW_.out (by kernel_rfl)) (fun _ _ _ h => h) (Or.inl ⟨by rfl, ?_⟩) hHeld ?_ ?_
            rotate_left
            · rintro w' ⟨s0, s1, s2, s3, s4, s5, s6, s7⟩
              go_simp
              with_reducible rfl
            rotate_left
            · simp only [Act.put, List.setIfInBounds_toArray, List.set_cons_zero, List.set_cons_succ, i64_w, i32_w]
              rfl
            refine pure_ (i := 14) (N := some 29) (v := ?_) (a' := ?_) #[true, true, true, true, true, true, true, true, true, true, true, true, true, true, true, false, false, false, false] rfl rfl (any_of HT_.out (by kernel_rfl)) (fun _ _ _ h => h) (Or.inl ⟨by rfl, ?_⟩) ?_ ?_
            rotate_left
            · intro w'
              go_simp
              with_reducible rfl
            rotate_left
            · simp only [Act.put, List.setIfInBounds_toArray, List.set_cons_zero, List.set_cons_succ, i64_w, i32_w]
              rfl
            refine one_ (i := 15) (N := some 30) #[true, true, true, true, true, true, true, true, true, true, true, true, true, true, true, true, false, false, false] rfl rfl (one_of HT_.out (by kernel_rfl)) (by decide) (fun K hK => ?_)
            refine value_ (w1 := ?_) (v := ?_) (by rfl) rfl ?_ ?_
            rotate_left 2
            · go_simp
              constructor
              · rfl
              · rfl
            refine hK.out _ _ ⟨(blk_cell (blk_alloc BK197.out _) 0).trans rfl, (blk_cell (blk_alloc BK197.out _) 1).trans rfl, (blk_cell (blk_alloc BK195.out _) 0).trans rfl, (blk_cell (blk_alloc BK195.out _) 1).trans rfl, (World.cell?_alloc_lt _ _ _ (World.block_lt_of_cell? _ _ (((HB.out.cell (World.block_lt_of_cell? w _ hw198_0)).trans hw198_0)))).trans (((HB.out.cell (World.block_lt_of_cell? w _ hw198_0)).trans hw198_0)), (World.cell?_alloc_lt _ _ _ (World.block_lt_of_cell? _ _ (((HB.out.cell (World.block_lt_of_cell? w _ hw198_1)).trans hw198_1)))).trans (((HB.out.cell (World.block_lt_of_cell? w _ hw198_1)).trans hw198_1)), (World.cell?_alloc_lt _ _ _ (World.block_lt_of_cell? _ _ (((HB.out.cell (World.block_lt_of_cell? w _ hw199_0)).trans hw199_0)))).trans (((HB.out.cell (World.block_lt_of_cell? w _ hw199_0)).trans hw199_0)), (World.cell?_alloc_lt _ _ _ (World.block_lt_of_cell? _ _ (((HB.out.cell (World.block_lt_of_cell? w _ hw199_1)).trans hw199_1)))).trans (((HB.out.cell (World.block_lt_of_cell? w _ hw199_1)).trans hw199_1))⟩ (fun hHeld => ?_)
            clear hK K
            refine norm_ (a' := ?_) ?_ ?_
            rotate_left
            · show Act.put _ (some 30) _ = _
              simp only [Act.put, List.setIfInBounds_toArray, List.set_cons_zero, List.set_cons_succ, i64_w, i32_w]
              rfl
            refine one_ (i := 16) (N := some 31) #[true, true, true, true, true, true, true, true, true, true, true, true, true, true, true, true, true, false, false] rfl rfl (one_of HT_.out (by kernel_rfl)) (by decide) (fun K hK => ?_)
            refine Kd.R_append_step k76 (w0 := w) w.heap.size (by rfl) (.tmp 16) (.tmp 30) 23 76 (.agg #[(.string ⟨#[]⟩), (.string ⟨#[]⟩)]) 32 rfl Tryz.underlying23 info76 rfl (by decide) (by omega) u198000 x198000_1 (⟨(rd_T78 l0_0 x4_1).f0, (rd_T78 l0_0 x4_1).f1⟩ : S76) [.string ((rd_T78 l0_0 x4_1).f0), .string ((rd_T78 l0_0 x4_1).f1)] (fun _ => True) (fun _ => False) rfl rfl ?aP (fun _ hk => hk.elim) ?aF ?aO ?aB ?aS ?aL ?_
            (case aP => exact k76_mkM _ _ _ (⟨(rd_T78 l0_0 x4_1).f0, (rd_T78 l0_0 x4_1).f1⟩ : S76))
            (case aB => exact (by repeat (first | (with_reducible first | exact HB.out | apply below_alloc | apply pw_below_drewN | apply below_drew1 | refine below_set ?_ GE195.out | refine below_set ?_ GE196.out | refine below_set ?_ GE197.out) | exact HB.out)))
            (case aF => exact (fun _ _ => trivial))
            (case aO => exact (by (with_reducible repeat (first | apply Kd.R_alloc | apply Kd.R_drewN | apply Kd.R_drew)); exact HO_198000.out))
            (case aS => exact (below_size (by repeat (first | (with_reducible first | exact HB.out | apply below_alloc | apply pw_below_drewN | apply below_drew1 | refine below_set ?_ GE195.out | refine below_set ?_ GE196.out | refine below_set ?_ GE197.out) | exact HB.out))))
            (case aL => have := LMc12.out; omega)
            intro v201 w17 ho hb hg hat
            rw [← Ny200.out] at ho
            have n0_ := Aside0.mk (blk_grown (g := gb195) (o := .cells #[.slice (some ad198) l0_0.length c0_0, .string a0_1] 31 (0, 0)) (by (with_reducible repeat (first | refine blk_drewN ?_ _ | refine blk_drew ?_ | refine blk_alloc ?_ _)); exact BK195.out) hg (Kd.R_ne HO_198000.out BK195.out (by decide)))
            have n1_ := Aside0.mk (blk_grown (g := gb196) (o := .cells #[.slice none 0 0, .string (⟨#[]⟩ : ByteArray)] 25 (0, 0)) (by (with_reducible repeat (first | refine blk_drewN ?_ _ | refine blk_drew ?_ | refine blk_alloc ?_ _)); exact BK196.out) hg (Kd.R_ne HO_198000.out BK196.out (by decide)))
            have n2_ := Aside0.mk (blk_grown (g := gb197) (o := .cells #[u198000, .string a0_1] 25 (0, 0)) (by (with_reducible repeat (first | refine blk_drewN ?_ _ | refine blk_drew ?_ | refine blk_alloc ?_ _)); exact BK197.out) hg (Kd.R_ne HO_198000.out BK197.out (by decide)))
            have n3_ := Aside0.mk (hb)
            have n4_ := Aside0.mk (ho)
            clear BK195
            clear BK196
            clear BK197
            clear HB
            clear HO_198000
            have BK195 := n0_
            have BK196 := n1_
            have BK197 := n2_
            have HB := n3_
            have HO202 := n4_
            clear n0_ n1_ n2_ n3_ n4_
            clear ho hb hg hat
            obtain ⟨Ao18, co18, eo18⟩ := Kd.R_slice HO202.out
            (first | subst eo18 | (injection eo18 with f1_ f2_ f3_; have f4_ := f1_.symm; have f5_ := f3_.symm; clear f1_ f2_ f3_; subst f4_; subst f5_))
            refine hK.out _ _ ⟨(blk_cell BK197.out 0).trans rfl, (blk_cell BK197.out 1).trans rfl, (blk_cell BK195.out 0).trans rfl, (blk_cell BK195.out 1).trans rfl, ((HB.out.cell (World.block_lt_of_cell? w _ hw198_0)).trans hw198_0), ((HB.out.cell (World.block_lt_of_cell? w _ hw198_1)).trans hw198_1), ((HB.out.cell (World.block_lt_of_cell? w _ hw199_0)).trans hw199_0), ((HB.out.cell (World.block_lt_of_cell? w _ hw199_1)).trans hw199_1)⟩ (fun hHeld => ?_)
            clear hK K
            refine norm_ (a' := ?_) ?_ ?_
            rotate_left
            · show Act.put _ (some 31) _ = _
              simp only [Act.put, List.setIfInBounds_toArray, List.set_cons_zero, List.set_cons_succ, i64_w, i32_w]
              rfl
            refine pure_ (i := 17) (N := some 32) (v := ?_) (a' := ?_) #[true, true, true, true, true, true, true, true, true, true, true, true, true, true, true, true, true, true, false] rfl rfl (any_of HT_.out (by kernel_rfl)) (fun _ _ _ h => h) (Or.inl ⟨by rfl, ?_⟩) ?_ ?_
            rotate_left
            · intro w'
              go_simp
              with_reducible rfl
            rotate_left
            · simp only [Act.put, List.setIfInBounds_toArray, List.set_cons_zero, List.set_cons_succ, i64_w, i32_w]
              rfl
            refine last_ (i := 18) (N := none) #[true, true, true, true, true, true, true, true, true, true, true, true, true, true, true, true, true, true, true] rfl rfl (one_of HT_.out (by kernel_rfl)) (by decide) (fun K hK => ?_)
            have hs19 : w17.cell? ⟨gb197, 0, none⟩ = some (u198000) := (blk_cell BK197.out 0).trans rfl
            have hfs19 := blk_frozen BK197.out 0
            have hns19_0 := NB195_197.out
            have hns19_1 := NB196_197.out
            have hms19_0 := NB197_195.out
            have hms19_1 := NB197_196.out
            refine skip_ (w1 := ?_) (by rfl) rfl ?_ ?_
            rotate_left
            · go_simp
              rfl
            refine hK.out _ _ ?_
            clear hK K
            refine done_ (done_of HT_.out (by kernel_rfl)) ?_
            try go_wp2
            go_roundg k1
            case measure => have := HK1.out; omega
            case rel => exact ⟨(wrap64 (x4_1 + 1)), (y200), (.slice Ao18 y200.length co18), (by first | rfl | (simp; done) | (simp [*]; done)), H', ⟨by have := HK1.out; omega⟩, ⟨by (with_reducible repeat (first | apply Kd.R_alloc | apply Kd.R_drewN | apply Kd.R_drew)); exact Kd.R_mono (Kd.R_far (p := ⟨gb197, 0, none⟩) (Kd.R_types HO202.out BK197.out (by decide)) (fun _ hk => hk.2) (.slice Ao18 y200.length co18)) (fun _ hk => trivial)⟩, ⟨by (with_reducible repeat (first | refine blk_drewN ?_ _ | refine blk_drew ?_ | refine blk_alloc ?_ _)); refine blk_far ?_ NB195_197.out _; (with_reducible repeat (first | refine blk_drewN ?_ _ | refine blk_drew ?_ | refine blk_alloc ?_ _)); exact BK195.out⟩, ⟨by (with_reducible repeat (first | refine blk_drewN ?_ _ | refine blk_drew ?_ | refine blk_alloc ?_ _)); refine blk_far ?_ NB196_197.out _; (with_reducible repeat (first | refine blk_drewN ?_ _ | refine blk_drew ?_ | refine blk_alloc ?_ _)); exact BK196.out⟩, ⟨by (with_reducible repeat (first | refine blk_drewN ?_ _ | refine blk_drew ?_ | refine blk_alloc ?_ _)); refine blk_put (cs := #[u198000, .string a0_1]) ?_ 0 _ rfl; (with_reducible repeat (first | refine blk_drewN ?_ _ | refine blk_drew ?_ | refine blk_alloc ?_ _)); exact BK197.out⟩, ⟨by repeat (first | (with_reducible first | exact HB.out | apply below_alloc | apply pw_below_drewN | apply below_drew1 | refine below_set ?_ GE195.out | refine below_set ?_ GE196.out | refine below_set ?_ GE197.out) | exact HB.out)⟩⟩
          · rw [if_neg c12] at H
            exact absurd H (by simp)
        · rw [if_neg c11] at H
          exact absurd H (by simp)
      · rw [if_neg c10] at H
        have c10b0 : decide (x4_1 < (l0_0.length : Int)) = false := decide_eq_false c10
        clear c10
        simp only [Option.some.injEq, Prod.mk.injEq] at H
        obtain ⟨rfl, rfl⟩ := H
        have hnb20 := NB195_196.out
        have hnc20 := NB196_195.out
        have hnb21 := NB195_197.out
        have hnc21 := NB197_195.out
        have hcz22_0 : wr.cell? ⟨gb195, 0, none⟩ = some (.slice A0_0 l0_0.length c0_0) := (blk_cell BK195.out 0).trans rfl
        have hcz22_1 : wr.cell? ⟨gb195, 1, none⟩ = some (.string a0_1) := (blk_cell BK195.out 1).trans rfl
        have hfz22_0 := blk_frozen BK195.out 0
        have hfz22_1 := blk_frozen BK195.out 1
        have hnb23 := NB197_196.out
        have hnc23 := NB196_197.out
        have hcz24_0 : wr.cell? ⟨gb197, 0, none⟩ = some (u198000) := (blk_cell BK197.out 0).trans rfl
        have hcz24_1 : wr.cell? ⟨gb197, 1, none⟩ = some (.string a0_1) := (blk_cell BK197.out 1).trans rfl
        have hfz24_0 := blk_frozen BK197.out 0
        have hfz24_1 := blk_frozen BK197.out 1
        obtain ⟨Ao25, co25, eo25⟩ := Kd.R_slice HO_198000.out
        subst eo25
        have hcz26_0 : wr.cell? ⟨gb196, 0, none⟩ = some (.slice none 0 0) := (blk_cell BK196.out 0).trans rfl
        have hcz26_1 : wr.cell? ⟨gb196, 1, none⟩ = some (.string (⟨#[]⟩ : ByteArray)) := (blk_cell BK196.out 1).trans rfl
        have hfz26_0 := blk_frozen BK196.out 0
        have hfz26_1 := blk_frozen BK196.out 1
        go_wp2
        refine bodyPost_ret (results_cell_row rfl _ _ gb196 25 #[.slice Ao25 x198000_1.length co25, .string a0_1] (0, 0) _ rfl (by (with_reducible repeat (first | refine blk_drewN ?_ _ | refine blk_drew ?_ | refine blk_alloc ?_ _)); refine blk_put (cs := #[.slice Ao25 x198000_1.length co25, .string (⟨#[]⟩ : ByteArray)]) ?_ 1 _ rfl; (with_reducible repeat (first | refine blk_drewN ?_ _ | refine blk_drew ?_ | refine blk_alloc ?_ _)); refine blk_put (cs := #[.slice none 0 0, .string (⟨#[]⟩ : ByteArray)]) ?_ 0 _ rfl; (with_reducible repeat (first | refine blk_drewN ?_ _ | refine blk_drew ?_ | refine blk_alloc ?_ _)); exact BK196.out) Tryz.underlying25 rfl (by kernel_rfl)) rfl ?_
        exact ⟨_, by first | rfl | (simp [errW_none, errW_some] <;> rfl) | (simp [*, errW_none, errW_some] <;> rfl), by (with_reducible repeat (first | apply Kd.R_alloc | apply Kd.R_drewN | apply Kd.R_drew)); exact Kd.R_mono (Kd.R_far (p := ⟨gb196, 1, none⟩) (Kd.R_far (p := ⟨gb196, 0, none⟩) (Kd.R_types HO_198000.out BK196.out (by decide)) (fun _ hk => hk.2) (.slice Ao25 x198000_1.length co25)) (fun _ hk => hk.2) (.string a0_1)) (fun _ hk => trivial), by repeat (first | (with_reducible first | exact HB.out | apply below_alloc | apply pw_below_drewN | apply below_drew1 | refine below_set ?_ GE195.out | refine below_set ?_ GE196.out | refine below_set ?_ GE197.out) | exact HB.out)⟩

/-! ### bulletinref01_Printable: function 98 -/
/-! ### bulletinref01_Words: function 100 -/
/-! ### bulletinref01_Squeeze: function 99 -/
end Go.Proofs.YtfeciafdioepiaaGreatDoor.PA
namespace Go.Proofs.YtfeciafdioepiaaGreatDoor.PC
open Go.Proofs.YtfeciafdioepiaaGreatDoor.PA
open Go.Proofs.YtfeciafdioepiaaGreatDoor
open Go.RowKit Go.Proofs.YtfeciafdioepiaaGreatDoorW.PrintWords Go.Proofs.YtfeciafdioepiaaGreatDoorW.PrintLast Go.Proofs.YtfeciafdioepiaaGreatDoorW.PrintMore
attribute [local go_sem] max2_int min2_int max_two min_two max_three min_three max_four min_four   -- for this text's walks alone
set_option linter.unusedVariables false
set_option linter.unusedSimpArgs false

/-! ### article_CheckBody: function 17 -/
def article_CheckBody.l0 : Nat → ByteArray → Int → Option (Int × Int)
  | 0, _, _ => none
  | k + 1, x0, x4 => if x4 < (x0.size : Int) then (if 0 ≤ x4 then (if x4 ≤ (x0.size : Int) then ((GV.Cut.f (x0.extract (x4 : Int).toNat x0.size) (⟨#[10]⟩ : ByteArray)).bind fun bt101 => (if bt101.2.2 = true then (if (bt101.1.size : Int) > 998 then (some (wrap64 (x4 + 998), 5)) else ((GV.badByte.f bt101.1).bind fun t104 => (if t104 ≥ 0 then (some (wrap64 (x4 + t104), 6)) else (article_CheckBody.l0 k x0 (wrap64 (x4 + (wrap64 ((bt101.1.size : Int) + 1)))))))) else (some ((x0.size : Int), 4)))) else (none)) else (none)) else (some (0, 0))
def article_CheckBody.f (k : Nat) (a0 : ByteArray) : Option (Int × Int) := article_CheckBody.l0 k a0 0
set_option maxHeartbeats 8000000 in
set_option maxRecDepth 100000 in
theorem article_CheckBody.calls (k : Nat) (a0 : ByteArray) (r1 : Int) (r2 : Int) (w : World) (h : article_CheckBody.f k a0 = some (r1, r2)) :
    Calls Tryz.prog 17 #[.string a0] w fun e w' => e = .returned (.tuple #[.int .i64 r1, .int .i64 r2]) ∧ Below w.heap.size w w' := by
  have HB := Aside0.mk (Below.refl w.heap.size w)
  have H : (article_CheckBody.l0 k a0 0) = some (r1, r2) := h
  clear h
  have H' := Aside0.mk H
  clear H
  go_enter Tryz.func17, Tryz.ntmps17
  go_wp2
  go_loopg [4] k (fun kq v4 w' => ∃ (x4_1 : Int), v4 = .int .i64 x4_1 ∧ Aside0 (article_CheckBody.l0 kq a0 x4_1 = some (r1, r2)) ∧ Aside0 (kq ≤ k) ∧ Aside0 (Below w.heap.size w w'))
  case atStart => exact ⟨(0), (by first | rfl | (simp; done) | (simp [*]; done)), H', ⟨Nat.le_refl _⟩, ⟨by repeat (first | (with_reducible first | exact HB.out | apply below_alloc | apply pw_below_drewN | apply below_drew1) | exact HB.out)⟩⟩
  case round =>
    clear H'
    try clear c1
    obtain ⟨x4_1, rfl, HA, HK1, HB⟩ := hrel
    cases gk with
    | zero => exact absurd HA.out (by simp [article_CheckBody.l0])
    | succ k1 =>
      have H := HA.out
      clear HA
      simp only [article_CheckBody.l0] at H
      by_cases c2 : x4_1 < (a0.size : Int)
      · rw [if_pos c2] at H
        have c2b0 : decide (x4_1 < (a0.size : Int)) = true := decide_eq_true c2
        clear c2
        by_cases c3 : 0 ≤ x4_1
        · rw [if_pos c3] at H
          have c3b0 := eq_true c3
          have c3b1 : decide (0 ≤ x4_1) = true := decide_eq_true c3
          clear c3
          by_cases c4 : x4_1 ≤ (a0.size : Int)
          · rw [if_pos c4] at H
            have c4b0 := eq_true c4
            have c4b1 : decide (x4_1 ≤ (a0.size : Int)) = true := decide_eq_true c4
            clear c4
            replace H := Option.bind_eq_some_iff.mp H
            obtain ⟨⟨t101, t102, t103⟩, A50, H⟩ := H
            replace H : (if t103 = true then (if (t101.size : Int) > 998 then (some (wrap64 (x4_1 + 998), 5)) else ((GV.badByte.f t101).bind fun t104 => (if t104 ≥ 0 then (some (wrap64 (x4_1 + t104), 6)) else (article_CheckBody.l0 k1 a0 (wrap64 (x4_1 + (wrap64 ((t101.size : Int) + 1)))))))) else (some ((a0.size : Int), 4))) = some (r1, r2) := H
            have A5 := Aside0.mk A50
            clear A50
            by_cases c6 : t103 = true
            · subst c6
              have H1 : (if (t101.size : Int) > 998 then (some (wrap64 (x4_1 + 998), 5)) else ((GV.badByte.f t101).bind fun t104 => (if t104 ≥ 0 then (some (wrap64 (x4_1 + t104), 6)) else (article_CheckBody.l0 k1 a0 (wrap64 (x4_1 + (wrap64 ((t101.size : Int) + 1)))))))) = some (r1, r2) := by rw [if_pos rfl] at H; exact H
              clear H
              have H := H1
              clear H1
              by_cases c7 : (t101.size : Int) > 998
              · rw [if_pos c7] at H
                have c7b0 : decide (998 < (t101.size : Int)) = true := decide_eq_true c7
                have c7b1 : decide (998 < t101.size) = true := decide_eq_true (by omega)
                clear c7
                simp only [Option.some.injEq, Prod.mk.injEq] at H
                obtain ⟨rfl, rfl⟩ := H
                go_wp2_with (first | ((with_reducible refine gate_callee (f := 41) rfl ?_); refine goesL_ (some 17) rfl rfl Tryz.func41 (by kernel_rfl) rfl #[.string (a0.extract (x4_1 : Int).toNat a0.size), .string (⟨#[10]⟩ : ByteArray)] rfl (by (try simp only [List.map_toArray, List.map_cons, List.map_nil]); first | done | rfl | (simp only [List.length_drop, List.length_take]; rfl)) ?_; (with_reducible refine (GV.Cut.calls (a0.extract (x4_1 : Int).toNat a0.size) (⟨#[10]⟩ : ByteArray) t101 t102 true _ A5.out).mono ?_); rintro e w' ⟨rfl, ⟨nd, rfl⟩⟩; refine ⟨_, rfl, ?_⟩))
                go_ret2
                exact ⟨by first | rfl | (simp [errW_none, errW_some] <;> rfl) | (simp [*, errW_none, errW_some] <;> rfl), by repeat (first | (with_reducible first | exact HB.out | apply below_alloc | apply pw_below_drewN | apply below_drew1) | exact HB.out)⟩
              · rw [if_neg c7] at H
                have c7b0 : decide (998 < (t101.size : Int)) = false := decide_eq_false c7
                have c7b1 : decide (998 < t101.size) = false := decide_eq_false (by omega)
                clear c7
                replace H := Option.bind_eq_some_iff.mp H
                obtain ⟨t104, A80, H⟩ := H
                replace H : (if t104 ≥ 0 then (some (wrap64 (x4_1 + t104), 6)) else (article_CheckBody.l0 k1 a0 (wrap64 (x4_1 + (wrap64 ((t101.size : Int) + 1)))))) = some (r1, r2) := H
                have A8 := Aside0.mk A80
                clear A80
                by_cases c9 : t104 ≥ 0
                · rw [if_pos c9] at H
                  have c9b0 : decide (0 ≤ t104) = true := decide_eq_true c9
                  clear c9
                  simp only [Option.some.injEq, Prod.mk.injEq] at H
                  obtain ⟨rfl, rfl⟩ := H
                  go_wp2_with (first | ((with_reducible refine gate_callee (f := 41) rfl ?_); refine goesL_ (some 17) rfl rfl Tryz.func41 (by kernel_rfl) rfl #[.string (a0.extract (x4_1 : Int).toNat a0.size), .string (⟨#[10]⟩ : ByteArray)] rfl (by (try simp only [List.map_toArray, List.map_cons, List.map_nil]); first | done | rfl | (simp only [List.length_drop, List.length_take]; rfl)) ?_; (with_reducible refine (GV.Cut.calls (a0.extract (x4_1 : Int).toNat a0.size) (⟨#[10]⟩ : ByteArray) t101 t102 true _ A5.out).mono ?_); rintro e w' ⟨rfl, ⟨nd, rfl⟩⟩; refine ⟨_, rfl, ?_⟩) | ((with_reducible refine gate_callee (f := 42) rfl ?_); refine goesL_ (some 33) rfl rfl Tryz.func42 (by kernel_rfl) rfl #[.string t101] rfl (by (try simp only [List.map_toArray, List.map_cons, List.map_nil]); first | done | rfl | (simp only [List.length_drop, List.length_take]; rfl)) ?_; (with_reducible refine (GV.badByte.calls t101 t104 _ A8.out).mono ?_); rintro e w10 ⟨rfl, hb⟩; refine ⟨_, rfl, ?_⟩; have n0_ := Aside0.mk (below_step (by repeat (first | (with_reducible first | exact HB.out | apply below_alloc | apply pw_below_drewN | apply below_drew1) | exact HB.out)) hb); clear HB; have HB := n0_; clear n0_; (try clear hb); (try clear hb2); (try clear hk); (try clear hi)))
                  go_ret2
                  exact ⟨by first | rfl | (simp [errW_none, errW_some] <;> rfl) | (simp [*, errW_none, errW_some] <;> rfl), by repeat (first | (with_reducible first | exact HB.out | apply below_alloc | apply pw_below_drewN | apply below_drew1) | exact HB.out)⟩
                · rw [if_neg c9] at H
                  have c9b0 : decide (0 ≤ t104) = false := decide_eq_false c9
                  clear c9
                  have H' := Aside0.mk H
                  clear H
                  go_wp2_with (first | ((with_reducible refine gate_callee (f := 41) rfl ?_); refine goesL_ (some 17) rfl rfl Tryz.func41 (by kernel_rfl) rfl #[.string (a0.extract (x4_1 : Int).toNat a0.size), .string (⟨#[10]⟩ : ByteArray)] rfl (by (try simp only [List.map_toArray, List.map_cons, List.map_nil]); first | done | rfl | (simp only [List.length_drop, List.length_take]; rfl)) ?_; (with_reducible refine (GV.Cut.calls (a0.extract (x4_1 : Int).toNat a0.size) (⟨#[10]⟩ : ByteArray) t101 t102 true _ A5.out).mono ?_); rintro e w' ⟨rfl, ⟨nd, rfl⟩⟩; refine ⟨_, rfl, ?_⟩) | ((with_reducible refine gate_callee (f := 42) rfl ?_); refine goesL_ (some 33) rfl rfl Tryz.func42 (by kernel_rfl) rfl #[.string t101] rfl (by (try simp only [List.map_toArray, List.map_cons, List.map_nil]); first | done | rfl | (simp only [List.length_drop, List.length_take]; rfl)) ?_; (with_reducible refine (GV.badByte.calls t101 t104 _ A8.out).mono ?_); rintro e w11 ⟨rfl, hb⟩; refine ⟨_, rfl, ?_⟩; have n0_ := Aside0.mk (below_step (by repeat (first | (with_reducible first | exact HB.out | apply below_alloc | apply pw_below_drewN | apply below_drew1) | exact HB.out)) hb); clear HB; have HB := n0_; clear n0_; (try clear hb); (try clear hb2); (try clear hk); (try clear hi)))
                  go_roundg k1
                  case measure => have := HK1.out; omega
                  case rel => exact ⟨(wrap64 (x4_1 + (wrap64 ((t101.size : Int) + 1)))), (by first | rfl | (simp; done) | (simp [*]; done)), H', ⟨by have := HK1.out; omega⟩, ⟨by repeat (first | (with_reducible first | exact HB.out | apply below_alloc | apply pw_below_drewN | apply below_drew1) | exact HB.out)⟩⟩
            · replace c6 := Bool.eq_false_iff.mpr c6
              subst c6
              have H1 : (some ((a0.size : Int), 4)) = some (r1, r2) := by rw [if_neg (show ¬ (false = true) by decide)] at H; exact H
              clear H
              have H := H1
              clear H1
              simp only [Option.some.injEq, Prod.mk.injEq] at H
              obtain ⟨rfl, rfl⟩ := H
              go_wp2_with (first | ((with_reducible refine gate_callee (f := 41) rfl ?_); refine goesL_ (some 17) rfl rfl Tryz.func41 (by kernel_rfl) rfl #[.string (a0.extract (x4_1 : Int).toNat a0.size), .string (⟨#[10]⟩ : ByteArray)] rfl (by (try simp only [List.map_toArray, List.map_cons, List.map_nil]); first | done | rfl | (simp only [List.length_drop, List.length_take]; rfl)) ?_; (with_reducible refine (GV.Cut.calls (a0.extract (x4_1 : Int).toNat a0.size) (⟨#[10]⟩ : ByteArray) t101 t102 false _ A5.out).mono ?_); rintro e w' ⟨rfl, ⟨nd, rfl⟩⟩; refine ⟨_, rfl, ?_⟩))
              go_ret2
              exact ⟨by first | rfl | (simp [errW_none, errW_some] <;> rfl) | (simp [*, errW_none, errW_some] <;> rfl), by repeat (first | (with_reducible first | exact HB.out | apply below_alloc | apply pw_below_drewN | apply below_drew1) | exact HB.out)⟩
          · rw [if_neg c4] at H
            exact absurd H (by simp)
        · rw [if_neg c3] at H
          exact absurd H (by simp)
      · rw [if_neg c2] at H
        have c2b0 : decide (x4_1 < (a0.size : Int)) = false := decide_eq_false c2
        clear c2
        simp only [Option.some.injEq, Prod.mk.injEq] at H
        obtain ⟨rfl, rfl⟩ := H
        go_wp2
        go_ret2
        exact ⟨by first | rfl | (simp [errW_none, errW_some] <;> rfl) | (simp [*, errW_none, errW_some] <;> rfl), by repeat (first | (with_reducible first | exact HB.out | apply below_alloc | apply pw_below_drewN | apply below_drew1) | exact HB.out)⟩

/-! ### article_Print: function 16 -/
def article_Print.f (k : Nat) (l0_0 : List (S76)) (a0_1 : ByteArray) : Option (ByteArray × Int) := (GV.Print.f k l0_0).bind fun bt106 => (if bt106.2 = 0 then ((article_CheckBody.f k a0_1).bind fun bt108 => (if bt108.2 = 0 then (if (wrap64 ((wrap64 ((bt106.1.size : Int) + 1)) + (a0_1.size : Int))) > 65536 then (some ((⟨#[]⟩ : ByteArray), 5)) else (if bt106.1.size + 1 ≤ 9223372036854775807 then (if (bt106.1 ++ (⟨#[10]⟩ : ByteArray)).size + a0_1.size ≤ 9223372036854775807 then (some ((bt106.1 ++ (⟨#[10]⟩ : ByteArray)) ++ a0_1, 0)) else (none)) else (none))) else (some ((⟨#[]⟩ : ByteArray), bt108.2)))) else (some ((⟨#[]⟩ : ByteArray), bt106.2)))
set_option maxHeartbeats 8000000 in
set_option maxRecDepth 100000 in
theorem article_Print.calls (k : Nat) (A0_0 : Option Addr) (c0_0 : Nat) (l0_0 : List (S76)) (a0_1 : ByteArray) (r1 : ByteArray) (r2 : Int) (w : World) (hr0_0 : Kd.C k76 w A0_0 l0_0.length l0_0) (hc0_0 : l0_0.length ≤ c0_0) (h : article_Print.f k l0_0 a0_1 = some (r1, r2)) :
    Calls Tryz.prog 16 #[.agg #[.slice A0_0 l0_0.length c0_0, .string a0_1]] w fun e w' => e = .returned (.tuple #[.string r1, .int .i64 r2]) ∧ Below w.heap.size w w' := by
  have hu25 := Tryz.underlying25
  have HR0_0 := Aside0.mk hr0_0
  have HC0_0 := Aside0.mk hc0_0
  clear hr0_0 hc0_0
  have HB := Aside0.mk (Below.refl w.heap.size w)
  have H : ((GV.Print.f k l0_0).bind fun bt106 => (if bt106.2 = 0 then ((article_CheckBody.f k a0_1).bind fun bt108 => (if bt108.2 = 0 then (if (wrap64 ((wrap64 ((bt106.1.size : Int) + 1)) + (a0_1.size : Int))) > 65536 then (some ((⟨#[]⟩ : ByteArray), 5)) else (if bt106.1.size + 1 ≤ 9223372036854775807 then (if (bt106.1 ++ (⟨#[10]⟩ : ByteArray)).size + a0_1.size ≤ 9223372036854775807 then (some ((bt106.1 ++ (⟨#[10]⟩ : ByteArray)) ++ a0_1, 0)) else (none)) else (none))) else (some ((⟨#[]⟩ : ByteArray), bt108.2)))) else (some ((⟨#[]⟩ : ByteArray), bt106.2)))) = some (r1, r2) := h
  clear h
  replace H := Option.bind_eq_some_iff.mp H
  obtain ⟨⟨t106, t107⟩, A20, H⟩ := H
  replace H : (if t107 = 0 then ((article_CheckBody.f k a0_1).bind fun bt108 => (if bt108.2 = 0 then (if (wrap64 ((wrap64 ((t106.size : Int) + 1)) + (a0_1.size : Int))) > 65536 then (some ((⟨#[]⟩ : ByteArray), 5)) else (if t106.size + 1 ≤ 9223372036854775807 then (if (t106 ++ (⟨#[10]⟩ : ByteArray)).size + a0_1.size ≤ 9223372036854775807 then (some ((t106 ++ (⟨#[10]⟩ : ByteArray)) ++ a0_1, 0)) else (none)) else (none))) else (some ((⟨#[]⟩ : ByteArray), bt108.2)))) else (some ((⟨#[]⟩ : ByteArray), t107))) = some (r1, r2) := H
  have A2 := Aside0.mk A20
  clear A20
  by_cases c3 : t107 = 0
  · rw [if_pos c3] at H
    have c3b0 : (t107 == 0) = true := beq_iff_eq.mpr c3
    have c3b1 : (t107 != 0) = false := bne_eq_false_iff_eq.mpr c3
    clear c3
    replace H := Option.bind_eq_some_iff.mp H
    obtain ⟨⟨t108, t109⟩, A40, H⟩ := H
    replace H : (if t109 = 0 then (if (wrap64 ((wrap64 ((t106.size : Int) + 1)) + (a0_1.size : Int))) > 65536 then (some ((⟨#[]⟩ : ByteArray), 5)) else (if t106.size + 1 ≤ 9223372036854775807 then (if (t106 ++ (⟨#[10]⟩ : ByteArray)).size + a0_1.size ≤ 9223372036854775807 then (some ((t106 ++ (⟨#[10]⟩ : ByteArray)) ++ a0_1, 0)) else (none)) else (none))) else (some ((⟨#[]⟩ : ByteArray), t109))) = some (r1, r2) := H
    have A4 := Aside0.mk A40
    clear A40
    by_cases c5 : t109 = 0
    · rw [if_pos c5] at H
      have c5b0 : (t109 == 0) = true := beq_iff_eq.mpr c5
      have c5b1 : (t109 != 0) = false := bne_eq_false_iff_eq.mpr c5
      clear c5
      by_cases c6 : (wrap64 ((wrap64 ((t106.size : Int) + 1)) + (a0_1.size : Int))) > 65536
      · rw [if_pos c6] at H
        have c6b0 : decide (65536 < (wrap64 ((wrap64 ((t106.size : Int) + 1)) + (a0_1.size : Int)))) = true := decide_eq_true c6
        have c6b1 := c6b0
        rw [show wrap64 ((wrap64 ((t106.size : Int) + 1)) + (a0_1.size : Int)) = wrap64 ((t106.size : Int) + 1 + (a0_1.size : Int)) from by unfold wrap64; omega] at c6b1
        clear c6
        simp only [Option.some.injEq, Prod.mk.injEq] at H
        obtain ⟨rfl, rfl⟩ := H
        go_enter Tryz.func16, Tryz.ntmps16
        go_wp2_with (first | ((with_reducible refine gate_dst (N := 1) rfl ?_); refine box_event ?hg (N := 1) ?hd (cs := #[.slice A0_0 l0_0.length c0_0, .string a0_1]) (t := 25) ?hr ?_; (case hd => rfl); (case hg => rfl); (case hr => first | (go_simp; done) | (go_simp; rfl)); intro gb105 hg w7 hbox hb; have n0_ := Aside0.mk (below_step (by repeat (first | (with_reducible first | exact HB.out | apply below_alloc | apply pw_below_drewN | apply below_drew1) | exact HB.out)) hb); have n1_ := Aside0.mk (hbox); have n2_ := Aside0.mk ((by rw [hg]; exact (below_size (by repeat (first | (with_reducible first | exact HB.out | apply below_alloc | apply pw_below_drewN | apply below_drew1) | exact HB.out))) : w.heap.size ≤ gb105)); have n3_ := Aside0.mk ((by rw [hg]; exact (below_size (by repeat (first | (with_reducible first | exact HB.out | apply below_alloc | apply pw_below_drewN | apply below_drew1) | exact HB.out))) : w.heap.size ≤ gb105)); clear HB; have HB := n0_; have BK105 := n1_; have GW105 := n2_; have GE105 := n3_; clear n0_ n1_ n2_ n3_; clear hb hbox hg; have hcz8_0 : w7.cell? ⟨gb105, 0, none⟩ = some (.slice A0_0 l0_0.length c0_0) := (blk_cell BK105.out 0).trans rfl; have hcz8_1 : w7.cell? ⟨gb105, 1, none⟩ = some (.string a0_1) := (blk_cell BK105.out 1).trans rfl; have hfz8_0 := blk_frozen BK105.out 0; have hfz8_1 := blk_frozen BK105.out 1) | ((with_reducible refine gate_callee (f := 40) rfl ?_); refine goesL_ (some 11) rfl rfl Tryz.func40 (by kernel_rfl) rfl #[.slice A0_0 l0_0.length c0_0] rfl (by (try simp only [List.map_toArray, List.map_cons, List.map_nil]); first | done | rfl | (simp only [List.length_drop, List.length_take]; rfl)) ?_; (with_reducible refine (GV.Print.calls k _ _ l0_0 t106 t107 _ ?side1 ?side2 A2.out).mono ?_); (case side1 => repeat (first | exact (Kd.C_below HR0_0.out HB.out) | (with_reducible refine Kd.C_alloc ?_ _) | (with_reducible refine Kd.C_drewN ?_ _) | (with_reducible refine Kd.C_drew ?_))); (case side2 => exact HC0_0.out); rintro e w9 ⟨rfl, hb⟩; refine ⟨_, rfl, ?_⟩; have n0_ := Aside0.mk (blk_below (g := gb105) (o := .cells #[.slice A0_0 l0_0.length c0_0, .string a0_1] 25 (0, 0)) (by (with_reducible repeat (first | refine blk_drewN ?_ _ | refine blk_drew ?_ | refine blk_alloc ?_ _)); exact BK105.out) hb); have n1_ := Aside0.mk (below_step (by repeat (first | (with_reducible first | exact HB.out | apply below_alloc | apply pw_below_drewN | apply below_drew1 | refine below_set ?_ GE105.out) | exact HB.out)) hb); clear BK105; clear HB; have BK105 := n0_; have HB := n1_; clear n0_ n1_; (try clear hb); (try clear hb2); (try clear hk); (try clear hi); have hcz10_0 : w9.cell? ⟨gb105, 0, none⟩ = some (.slice A0_0 l0_0.length c0_0) := (blk_cell BK105.out 0).trans rfl; have hcz10_1 : w9.cell? ⟨gb105, 1, none⟩ = some (.string a0_1) := (blk_cell BK105.out 1).trans rfl; have hfz10_0 := blk_frozen BK105.out 0; have hfz10_1 := blk_frozen BK105.out 1) | ((with_reducible refine gate_callee (f := 17) rfl ?_); refine goesL_ (some 20) rfl rfl Tryz.func17 (by kernel_rfl) rfl #[.string a0_1] rfl (by (try simp only [List.map_toArray, List.map_cons, List.map_nil]); first | done | rfl | (simp only [List.length_drop, List.length_take]; rfl)) ?_; (with_reducible refine (article_CheckBody.calls k a0_1 t108 t109 _ A4.out).mono ?_); rintro e w11 ⟨rfl, hb⟩; refine ⟨_, rfl, ?_⟩; have n0_ := Aside0.mk (blk_below (g := gb105) (o := .cells #[.slice A0_0 l0_0.length c0_0, .string a0_1] 25 (0, 0)) (by (with_reducible repeat (first | refine blk_drewN ?_ _ | refine blk_drew ?_ | refine blk_alloc ?_ _)); exact BK105.out) hb); have n1_ := Aside0.mk (below_step (by repeat (first | (with_reducible first | exact HB.out | apply below_alloc | apply pw_below_drewN | apply below_drew1 | refine below_set ?_ GE105.out) | exact HB.out)) hb); clear BK105; clear HB; have BK105 := n0_; have HB := n1_; clear n0_ n1_; (try clear hb); (try clear hb2); (try clear hk); (try clear hi); have hcz12_0 : w11.cell? ⟨gb105, 0, none⟩ = some (.slice A0_0 l0_0.length c0_0) := (blk_cell BK105.out 0).trans rfl; have hcz12_1 : w11.cell? ⟨gb105, 1, none⟩ = some (.string a0_1) := (blk_cell BK105.out 1).trans rfl; have hfz12_0 := blk_frozen BK105.out 0; have hfz12_1 := blk_frozen BK105.out 1))
        go_ret2
        exact ⟨by first | rfl | (simp [errW_none, errW_some] <;> rfl) | (simp [*, errW_none, errW_some] <;> rfl), by repeat (first | (with_reducible first | exact HB.out | apply below_alloc | apply pw_below_drewN | apply below_drew1 | refine below_set ?_ GE105.out) | exact HB.out)⟩
      · rw [if_neg c6] at H
        have c6b0 : decide (65536 < (wrap64 ((wrap64 ((t106.size : Int) + 1)) + (a0_1.size : Int)))) = false := decide_eq_false c6
        have c6b1 := c6b0
        rw [show wrap64 ((wrap64 ((t106.size : Int) + 1)) + (a0_1.size : Int)) = wrap64 ((t106.size : Int) + 1 + (a0_1.size : Int)) from by unfold wrap64; omega] at c6b1
        clear c6
        by_cases c13 : t106.size + 1 ≤ 9223372036854775807
        · rw [if_pos c13] at H
          have c13b0 := eq_true c13
          have c13b1 : decide (t106.size + 1 ≤ 9223372036854775807) = true := decide_eq_true c13
          try have c13b2 : (9223372036854775807 < t106.size + 1) = False := eq_false (Nat.not_lt.2 c13)
          by_cases c14 : (t106 ++ (⟨#[10]⟩ : ByteArray)).size + a0_1.size ≤ 9223372036854775807
          · rw [if_pos c14] at H
            have c14b0 := eq_true c14
            have c14b1 : decide ((t106 ++ (⟨#[10]⟩ : ByteArray)).size + a0_1.size ≤ 9223372036854775807) = true := decide_eq_true c14
            try have c14b2 : (9223372036854775807 < (t106 ++ (⟨#[10]⟩ : ByteArray)).size + a0_1.size) = False := eq_false (Nat.not_lt.2 c14)
            simp only [Option.some.injEq, Prod.mk.injEq] at H
            obtain ⟨rfl, rfl⟩ := H
            go_enter Tryz.func16, Tryz.ntmps16
            go_wp2_with (first | ((with_reducible refine gate_dst (N := 1) rfl ?_); refine box_event ?hg (N := 1) ?hd (cs := #[.slice A0_0 l0_0.length c0_0, .string a0_1]) (t := 25) ?hr ?_; (case hd => rfl); (case hg => rfl); (case hr => first | (go_simp; done) | (go_simp; rfl)); intro gb105 hg w15 hbox hb; have n0_ := Aside0.mk (below_step (by repeat (first | (with_reducible first | exact HB.out | apply below_alloc | apply pw_below_drewN | apply below_drew1) | exact HB.out)) hb); have n1_ := Aside0.mk (hbox); have n2_ := Aside0.mk ((by rw [hg]; exact (below_size (by repeat (first | (with_reducible first | exact HB.out | apply below_alloc | apply pw_below_drewN | apply below_drew1) | exact HB.out))) : w.heap.size ≤ gb105)); have n3_ := Aside0.mk ((by rw [hg]; exact (below_size (by repeat (first | (with_reducible first | exact HB.out | apply below_alloc | apply pw_below_drewN | apply below_drew1) | exact HB.out))) : w.heap.size ≤ gb105)); clear HB; have HB := n0_; have BK105 := n1_; have GW105 := n2_; have GE105 := n3_; clear n0_ n1_ n2_ n3_; clear hb hbox hg; have hcz16_0 : w15.cell? ⟨gb105, 0, none⟩ = some (.slice A0_0 l0_0.length c0_0) := (blk_cell BK105.out 0).trans rfl; have hcz16_1 : w15.cell? ⟨gb105, 1, none⟩ = some (.string a0_1) := (blk_cell BK105.out 1).trans rfl; have hfz16_0 := blk_frozen BK105.out 0; have hfz16_1 := blk_frozen BK105.out 1) | ((with_reducible refine gate_callee (f := 40) rfl ?_); refine goesL_ (some 11) rfl rfl Tryz.func40 (by kernel_rfl) rfl #[.slice A0_0 l0_0.length c0_0] rfl (by (try simp only [List.map_toArray, List.map_cons, List.map_nil]); first | done | rfl | (simp only [List.length_drop, List.length_take]; rfl)) ?_; (with_reducible refine (GV.Print.calls k _ _ l0_0 t106 t107 _ ?side1 ?side2 A2.out).mono ?_); (case side1 => repeat (first | exact (Kd.C_below HR0_0.out HB.out) | (with_reducible refine Kd.C_alloc ?_ _) | (with_reducible refine Kd.C_drewN ?_ _) | (with_reducible refine Kd.C_drew ?_))); (case side2 => exact HC0_0.out); rintro e w17 ⟨rfl, hb⟩; refine ⟨_, rfl, ?_⟩; have n0_ := Aside0.mk (blk_below (g := gb105) (o := .cells #[.slice A0_0 l0_0.length c0_0, .string a0_1] 25 (0, 0)) (by (with_reducible repeat (first | refine blk_drewN ?_ _ | refine blk_drew ?_ | refine blk_alloc ?_ _)); exact BK105.out) hb); have n1_ := Aside0.mk (below_step (by repeat (first | (with_reducible first | exact HB.out | apply below_alloc | apply pw_below_drewN | apply below_drew1 | refine below_set ?_ GE105.out) | exact HB.out)) hb); clear BK105; clear HB; have BK105 := n0_; have HB := n1_; clear n0_ n1_; (try clear hb); (try clear hb2); (try clear hk); (try clear hi); have hcz18_0 : w17.cell? ⟨gb105, 0, none⟩ = some (.slice A0_0 l0_0.length c0_0) := (blk_cell BK105.out 0).trans rfl; have hcz18_1 : w17.cell? ⟨gb105, 1, none⟩ = some (.string a0_1) := (blk_cell BK105.out 1).trans rfl; have hfz18_0 := blk_frozen BK105.out 0; have hfz18_1 := blk_frozen BK105.out 1) | ((with_reducible refine gate_callee (f := 17) rfl ?_); refine goesL_ (some 20) rfl rfl Tryz.func17 (by kernel_rfl) rfl #[.string a0_1] rfl (by (try simp only [List.map_toArray, List.map_cons, List.map_nil]); first | done | rfl | (simp only [List.length_drop, List.length_take]; rfl)) ?_; (with_reducible refine (article_CheckBody.calls k a0_1 t108 t109 _ A4.out).mono ?_); rintro e w19 ⟨rfl, hb⟩; refine ⟨_, rfl, ?_⟩; have n0_ := Aside0.mk (blk_below (g := gb105) (o := .cells #[.slice A0_0 l0_0.length c0_0, .string a0_1] 25 (0, 0)) (by (with_reducible repeat (first | refine blk_drewN ?_ _ | refine blk_drew ?_ | refine blk_alloc ?_ _)); exact BK105.out) hb); have n1_ := Aside0.mk (below_step (by repeat (first | (with_reducible first | exact HB.out | apply below_alloc | apply pw_below_drewN | apply below_drew1 | refine below_set ?_ GE105.out) | exact HB.out)) hb); clear BK105; clear HB; have BK105 := n0_; have HB := n1_; clear n0_ n1_; (try clear hb); (try clear hb2); (try clear hk); (try clear hi); have hcz20_0 : w19.cell? ⟨gb105, 0, none⟩ = some (.slice A0_0 l0_0.length c0_0) := (blk_cell BK105.out 0).trans rfl; have hcz20_1 : w19.cell? ⟨gb105, 1, none⟩ = some (.string a0_1) := (blk_cell BK105.out 1).trans rfl; have hfz20_0 := blk_frozen BK105.out 0; have hfz20_1 := blk_frozen BK105.out 1))
            go_ret2
            exact ⟨by first | rfl | (simp [errW_none, errW_some] <;> rfl) | (simp [*, errW_none, errW_some] <;> rfl), by repeat (first | (with_reducible first | exact HB.out | apply below_alloc | apply pw_below_drewN | apply below_drew1 | refine below_set ?_ GE105.out) | exact HB.out)⟩
          · rw [if_neg c14] at H
            exact absurd H (by simp)
        · rw [if_neg c13] at H
          exact absurd H (by simp)
    · rw [if_neg c5] at H
      have c5b0 : (t109 == 0) = false := beq_eq_false_iff_ne.mpr c5
      have c5b1 : (t109 != 0) = true := bne_iff_ne.mpr c5
      simp only [Option.some.injEq, Prod.mk.injEq] at H
      obtain ⟨rfl, rfl⟩ := H
      go_enter Tryz.func16, Tryz.ntmps16
      go_wp2_with (first | ((with_reducible refine gate_dst (N := 1) rfl ?_); refine box_event ?hg (N := 1) ?hd (cs := #[.slice A0_0 l0_0.length c0_0, .string a0_1]) (t := 25) ?hr ?_; (case hd => rfl); (case hg => rfl); (case hr => first | (go_simp; done) | (go_simp; rfl)); intro gb105 hg w21 hbox hb; have n0_ := Aside0.mk (below_step (by repeat (first | (with_reducible first | exact HB.out | apply below_alloc | apply pw_below_drewN | apply below_drew1) | exact HB.out)) hb); have n1_ := Aside0.mk (hbox); have n2_ := Aside0.mk ((by rw [hg]; exact (below_size (by repeat (first | (with_reducible first | exact HB.out | apply below_alloc | apply pw_below_drewN | apply below_drew1) | exact HB.out))) : w.heap.size ≤ gb105)); have n3_ := Aside0.mk ((by rw [hg]; exact (below_size (by repeat (first | (with_reducible first | exact HB.out | apply below_alloc | apply pw_below_drewN | apply below_drew1) | exact HB.out))) : w.heap.size ≤ gb105)); clear HB; have HB := n0_; have BK105 := n1_; have GW105 := n2_; have GE105 := n3_; clear n0_ n1_ n2_ n3_; clear hb hbox hg; have hcz22_0 : w21.cell? ⟨gb105, 0, none⟩ = some (.slice A0_0 l0_0.length c0_0) := (blk_cell BK105.out 0).trans rfl; have hcz22_1 : w21.cell? ⟨gb105, 1, none⟩ = some (.string a0_1) := (blk_cell BK105.out 1).trans rfl; have hfz22_0 := blk_frozen BK105.out 0; have hfz22_1 := blk_frozen BK105.out 1) | ((with_reducible refine gate_callee (f := 40) rfl ?_); refine goesL_ (some 11) rfl rfl Tryz.func40 (by kernel_rfl) rfl #[.slice A0_0 l0_0.length c0_0] rfl (by (try simp only [List.map_toArray, List.map_cons, List.map_nil]); first | done | rfl | (simp only [List.length_drop, List.length_take]; rfl)) ?_; (with_reducible refine (GV.Print.calls k _ _ l0_0 t106 t107 _ ?side1 ?side2 A2.out).mono ?_); (case side1 => repeat (first | exact (Kd.C_below HR0_0.out HB.out) | (with_reducible refine Kd.C_alloc ?_ _) | (with_reducible refine Kd.C_drewN ?_ _) | (with_reducible refine Kd.C_drew ?_))); (case side2 => exact HC0_0.out); rintro e w23 ⟨rfl, hb⟩; refine ⟨_, rfl, ?_⟩; have n0_ := Aside0.mk (blk_below (g := gb105) (o := .cells #[.slice A0_0 l0_0.length c0_0, .string a0_1] 25 (0, 0)) (by (with_reducible repeat (first | refine blk_drewN ?_ _ | refine blk_drew ?_ | refine blk_alloc ?_ _)); exact BK105.out) hb); have n1_ := Aside0.mk (below_step (by repeat (first | (with_reducible first | exact HB.out | apply below_alloc | apply pw_below_drewN | apply below_drew1 | refine below_set ?_ GE105.out) | exact HB.out)) hb); clear BK105; clear HB; have BK105 := n0_; have HB := n1_; clear n0_ n1_; (try clear hb); (try clear hb2); (try clear hk); (try clear hi); have hcz24_0 : w23.cell? ⟨gb105, 0, none⟩ = some (.slice A0_0 l0_0.length c0_0) := (blk_cell BK105.out 0).trans rfl; have hcz24_1 : w23.cell? ⟨gb105, 1, none⟩ = some (.string a0_1) := (blk_cell BK105.out 1).trans rfl; have hfz24_0 := blk_frozen BK105.out 0; have hfz24_1 := blk_frozen BK105.out 1) | ((with_reducible refine gate_callee (f := 17) rfl ?_); refine goesL_ (some 20) rfl rfl Tryz.func17 (by kernel_rfl) rfl #[.string a0_1] rfl (by (try simp only [List.map_toArray, List.map_cons, List.map_nil]); first | done | rfl | (simp only [List.length_drop, List.length_take]; rfl)) ?_; (with_reducible refine (article_CheckBody.calls k a0_1 t108 t109 _ A4.out).mono ?_); rintro e w25 ⟨rfl, hb⟩; refine ⟨_, rfl, ?_⟩; have n0_ := Aside0.mk (blk_below (g := gb105) (o := .cells #[.slice A0_0 l0_0.length c0_0, .string a0_1] 25 (0, 0)) (by (with_reducible repeat (first | refine blk_drewN ?_ _ | refine blk_drew ?_ | refine blk_alloc ?_ _)); exact BK105.out) hb); have n1_ := Aside0.mk (below_step (by repeat (first | (with_reducible first | exact HB.out | apply below_alloc | apply pw_below_drewN | apply below_drew1 | refine below_set ?_ GE105.out) | exact HB.out)) hb); clear BK105; clear HB; have BK105 := n0_; have HB := n1_; clear n0_ n1_; (try clear hb); (try clear hb2); (try clear hk); (try clear hi)))
      go_ret2
      exact ⟨by first | rfl | (simp [errW_none, errW_some] <;> rfl) | (simp [*, errW_none, errW_some] <;> rfl), by repeat (first | (with_reducible first | exact HB.out | apply below_alloc | apply pw_below_drewN | apply below_drew1 | refine below_set ?_ GE105.out) | exact HB.out)⟩
  · rw [if_neg c3] at H
    have c3b0 : (t107 == 0) = false := beq_eq_false_iff_ne.mpr c3
    have c3b1 : (t107 != 0) = true := bne_iff_ne.mpr c3
    simp only [Option.some.injEq, Prod.mk.injEq] at H
    obtain ⟨rfl, rfl⟩ := H
    go_enter Tryz.func16, Tryz.ntmps16
    go_wp2_with (first | ((with_reducible refine gate_dst (N := 1) rfl ?_); refine box_event ?hg (N := 1) ?hd (cs := #[.slice A0_0 l0_0.length c0_0, .string a0_1]) (t := 25) ?hr ?_; (case hd => rfl); (case hg => rfl); (case hr => first | (go_simp; done) | (go_simp; rfl)); intro gb105 hg w26 hbox hb; have n0_ := Aside0.mk (below_step (by repeat (first | (with_reducible first | exact HB.out | apply below_alloc | apply pw_below_drewN | apply below_drew1) | exact HB.out)) hb); have n1_ := Aside0.mk (hbox); have n2_ := Aside0.mk ((by rw [hg]; exact (below_size (by repeat (first | (with_reducible first | exact HB.out | apply below_alloc | apply pw_below_drewN | apply below_drew1) | exact HB.out))) : w.heap.size ≤ gb105)); have n3_ := Aside0.mk ((by rw [hg]; exact (below_size (by repeat (first | (with_reducible first | exact HB.out | apply below_alloc | apply pw_below_drewN | apply below_drew1) | exact HB.out))) : w.heap.size ≤ gb105)); clear HB; have HB := n0_; have BK105 := n1_; have GW105 := n2_; have GE105 := n3_; clear n0_ n1_ n2_ n3_; clear hb hbox hg; have hcz27_0 : w26.cell? ⟨gb105, 0, none⟩ = some (.slice A0_0 l0_0.length c0_0) := (blk_cell BK105.out 0).trans rfl; have hcz27_1 : w26.cell? ⟨gb105, 1, none⟩ = some (.string a0_1) := (blk_cell BK105.out 1).trans rfl; have hfz27_0 := blk_frozen BK105.out 0; have hfz27_1 := blk_frozen BK105.out 1) | ((with_reducible refine gate_callee (f := 40) rfl ?_); refine goesL_ (some 11) rfl rfl Tryz.func40 (by kernel_rfl) rfl #[.slice A0_0 l0_0.length c0_0] rfl (by (try simp only [List.map_toArray, List.map_cons, List.map_nil]); first | done | rfl | (simp only [List.length_drop, List.length_take]; rfl)) ?_; (with_reducible refine (GV.Print.calls k _ _ l0_0 t106 t107 _ ?side1 ?side2 A2.out).mono ?_); (case side1 => repeat (first | exact (Kd.C_below HR0_0.out HB.out) | (with_reducible refine Kd.C_alloc ?_ _) | (with_reducible refine Kd.C_drewN ?_ _) | (with_reducible refine Kd.C_drew ?_))); (case side2 => exact HC0_0.out); rintro e w28 ⟨rfl, hb⟩; refine ⟨_, rfl, ?_⟩; have n0_ := Aside0.mk (blk_below (g := gb105) (o := .cells #[.slice A0_0 l0_0.length c0_0, .string a0_1] 25 (0, 0)) (by (with_reducible repeat (first | refine blk_drewN ?_ _ | refine blk_drew ?_ | refine blk_alloc ?_ _)); exact BK105.out) hb); have n1_ := Aside0.mk (below_step (by repeat (first | (with_reducible first | exact HB.out | apply below_alloc | apply pw_below_drewN | apply below_drew1 | refine below_set ?_ GE105.out) | exact HB.out)) hb); clear BK105; clear HB; have BK105 := n0_; have HB := n1_; clear n0_ n1_; (try clear hb); (try clear hb2); (try clear hk); (try clear hi)))
    go_ret2
    exact ⟨by first | rfl | (simp [errW_none, errW_some] <;> rfl) | (simp [*, errW_none, errW_some] <;> rfl), by repeat (first | (with_reducible first | exact HB.out | apply below_alloc | apply pw_below_drewN | apply below_drew1 | refine below_set ?_ GE105.out) | exact HB.out)⟩

/-! ### article_Article_Check: function 26 -/
/-! ### article_Level: function 24 -/
/-! ### article_quoted: function 46 -/
/-! ### article_ToLine: function 29 -/
end Go.Proofs.YtfeciafdioepiaaGreatDoor.PC
set_option linter.unusedVariables false
set_option linter.unusedSimpArgs false
namespace Go.Proofs.YtfeciafdioepiaaGreatDoor
open Go.RowKit Go.Shelf Go.Proofs Go.Proofs.YtfeciafdioepiaaGreatDoorW.PrintWords Go.Proofs.YtfeciafdioepiaaGreatDoorW.PrintMore Go.Proofs.YtfeciafdioepiaaGreatDoor.PA
attribute [local go_sem] Oper.semAt_some

/-- The parser of an article lies at a block. -/
def Art (g : Nat) (text head : ByteArray) (fd : Bool) (v : Value) (body : ByteArray) (w : World) : Prop :=
  w.heap[g]? = some (.cells #[.string text, .string head, .bool fd, v, .string body] 67 (0, 0))
def failV (at_ code : Int) : Value := .agg #[.int .i64 at_, .int .i64 code]

set_option maxHeartbeats 4000000 in
theorem length_any (g : Nat) (text head : ByteArray) (fd : Bool) (v : Value) (body : ByteArray) (w : World) (h : Art g text head fd v body w) :
    Calls Tryz.prog 33 #[.pointer (some ⟨g, 0, none⟩)] w fun e w' => e = .returned (if 65536 < text.size then failV 65536 5 else failV 0 0) ∧ Below w.heap.size w w' := by
  have hc0 : w.cell? ⟨g, 0, none⟩ = some (.string text) := (blk_cell h 0).trans rfl
  have hg : g < w.heap.size := (Array.getElem?_eq_some_iff.1 h).1
  have HB := Aside0.mk h
  clear h
  by_cases hz : 65536 < text.size
  · rw [if_pos hz]
    have hz1 : decide (65536 < (text.size : Int)) = true := decide_eq_true (by omega)
    go_enter Tryz.func33, Tryz.ntmps33
    go_wp2
    refine bodyPost_ret (results_cell_row rfl _ _ w.heap.size 71 #[.int .i64 65536, .int .i64 5] (0, 0) _ rfl (heap_alloc_new _ _) Tryz.underlying71 rfl (by kernel_rfl)) rfl ?_
    exact ⟨rfl, (Below.refl _ _).alloc (Nat.le_refl _) _⟩
  · rw [if_neg hz]
    have hz1 : decide (65536 < (text.size : Int)) = false := decide_eq_false (by omega)
    go_enter Tryz.func33, Tryz.ntmps33
    go_wp2
    refine bodyPost_ret (results_cell_row rfl _ _ w.heap.size 71 #[.int .i64 0, .int .i64 0] (0, 0) _ rfl (heap_alloc_new _ _) Tryz.underlying71 rfl (by kernel_rfl)) rfl ?_
    exact ⟨rfl, (Below.refl _ _).alloc (Nat.le_refl _) _⟩

set_option maxHeartbeats 4000000 in
theorem separation_any (g : Nat) (text head : ByteArray) (fd : Bool) (v : Value) (body : ByteArray) (w : World) (h : Art g text head fd v body w) :
    Calls Tryz.prog 35 #[.pointer (some ⟨g, 0, none⟩)] w fun e w' => e = .returned (if fd = true then failV 0 0 else failV text.size 4) ∧ Below w.heap.size w w' := by
  have hc0 : w.cell? ⟨g, 0, none⟩ = some (.string text) := (blk_cell h 0).trans rfl
  have hc2 : w.cell? ⟨g, 2, none⟩ = some (.bool fd) := (blk_cell h 2).trans rfl
  have hg : g < w.heap.size := (Array.getElem?_eq_some_iff.1 h).1
  have HB := Aside0.mk h
  clear h
  cases fd
  · go_enter Tryz.func35, Tryz.ntmps35
    go_wp2
    refine bodyPost_ret (results_cell_row rfl _ _ w.heap.size 71 #[.int .i64 text.size, .int .i64 4] (0, 0) _ rfl (heap_alloc_new _ _) Tryz.underlying71 rfl (by kernel_rfl)) rfl ?_
    exact ⟨rfl, (Below.refl _ _).alloc (Nat.le_refl _) _⟩
  · go_enter Tryz.func35, Tryz.ntmps35
    go_wp2
    refine bodyPost_ret (results_cell_row rfl _ _ w.heap.size 71 #[.int .i64 0, .int .i64 0] (0, 0) _ rfl (heap_alloc_new _ _) Tryz.underlying71 rfl (by kernel_rfl)) rfl ?_
    exact ⟨rfl, (Below.refl _ _).alloc (Nat.le_refl _) _⟩

end Go.Proofs.YtfeciafdioepiaaGreatDoor
set_option linter.unusedVariables false
set_option linter.unusedSimpArgs false
namespace Go.Proofs.YtfeciafdioepiaaGreatDoor
open Go.RowKit Go.Shelf Go.Proofs Go.Proofs.YtfeciafdioepiaaGreatDoorW.PrintWords Go.Proofs.YtfeciafdioepiaaGreatDoorW.PrintMore Go.Proofs.YtfeciafdioepiaaGreatDoor.PA
attribute [local go_sem] Oper.semAt_some

/-- The header of a text, and whether it ends with an empty line. -/
def headA (text : ByteArray) : ByteArray × Bool :=
  if Lib.hasPrefix text.data.toList [10] = true then (⟨#[]⟩, true)
  else if 0 ≤ Lib.index text.data.toList [10, 10] then (text.extract 0 (Lib.index text.data.toList [10, 10] + 1).toNat, true)
  else (text, false)
theorem index2_lt (l : List UInt8) (h : 0 ≤ Lib.index l [10, 10]) : Lib.index l [10, 10] + 2 ≤ l.length := by
  rcases Lib.index_spec l [10, 10] with ⟨h1, _⟩ | ⟨i, h1, h2, h3, _⟩
  · omega
  · have h4 : [10, 10] <+: l.drop i := List.isPrefixOf_iff_prefix.1 h3
    have := h4.length_le
    simp at this
    omega

/-- What the header's step leaves. -/
def HeadPost (B g : Nat) (text hd : ByteArray) (fd : Bool) (body : ByteArray) (w : World) (e : Ending) (w' : World) : Prop :=
  ∃ v', e = .returned (failV (parseP hd.data.toList).2.1 (parseP hd.data.toList).2.2) ∧ Art g text hd fd v' body w' ∧ Kd.R k76 76 w' B (fun _ => True) v' ((parseP hd.data.toList).1.map toS) ∧ Below B w w' ∧ KeepBut w w' g none

theorem keep_below {w W w' : World} {g : Nat} (h : KeepBut w W g none) (hb : Below W.heap.size W w') : KeepBut w w' g none :=
  ⟨Nat.le_trans h.1 hb.size, fun i hi h1 h2 => (hb.block i (Nat.lt_of_lt_of_le hi h.1)).trans (h.2 i hi h1 h2)⟩
theorem keep_alloc {w W : World} {g : Nat} (h : KeepBut w W g none) (o : Obj) : KeepBut w (W.alloc o) g none :=
  ⟨Nat.le_trans h.1 (by simp), fun i hi h1 h2 => (Below.heap_alloc W o i (Nat.lt_of_lt_of_le hi h.1)).trans (h.2 i hi h1 h2)⟩
theorem keep_far {w W : World} {g F : Nat} (h : KeepBut w W g none) (hF : w.heap.size ≤ F) (j : Nat) (v : Value) : KeepBut w (W.setCell ⟨F, j, none⟩ v) g none :=
  ⟨by simpa using h.1, fun i hi h1 h2 => (Below.heap_setCell W ⟨F, j, none⟩ v i (by simp; omega)).trans (h.2 i hi h1 h2)⟩
/-- What field's Parse answers, by letters. -/
def Parsed (hd : ByteArray) (xs : List S76) (p q : Int) : Prop := (parseP hd.data.toList).1.map toS = xs ∧ (parseP hd.data.toList).2.1 = p ∧ (parseP hd.data.toList).2.2 = q
theorem parse_in (B g F : Nat) (text hd : ByteArray) (fd : Bool) (v : Value) (body : ByteArray) (w W : World) (h : Art g text hd fd v body W)
    (hF : W.heap[F]? = some (.cells #[.int .i64 0, .int .i64 0] 71 (0, 0))) (hW : Below B w W) (hK : KeepBut w W g none) (hBW : B ≤ W.heap.size) (h0 : 0 < B) (hgm : Gm w) (ht : hd.size ≤ 65536) :
    Calls Tryz.prog 59 #[.string hd] W fun e w' => ∃ v', e = .returned (.tuple #[v', .int .i64 (parseP hd.data.toList).2.1, .int .i64 (parseP hd.data.toList).2.2]) ∧
      Art g text hd fd v body w' ∧ w'.heap[F]? = some (.cells #[.int .i64 0, .int .i64 0] 71 (0, 0)) ∧ Kd.R k76 76 w' B (fun _ => True) v' ((parseP hd.data.toList).1.map toS) ∧ Below B w w' ∧ KeepBut w w' g none := by
  refine (parse_any hd W (hgm.below hW h0) (by omega)).mono ?_
  rintro e w' ⟨v', he, hr, hb⟩
  exact ⟨v', he, blk_below h hb, blk_below hF hb, Kd.R_lower hr hBW, hW.trans (hb.mono hBW), keep_below hK hb⟩

theorem parse_in2 (B g : Nat) (text hd : ByteArray) (fd : Bool) (v : Value) (body : ByteArray) (w W : World) (h : Art g text hd fd v body W)
    (hW : Below B w W) (hK : KeepBut w W g none) (hz : W.heap.size = w.heap.size) (hBW : B ≤ w.heap.size) (h0 : 0 < B) (hgm : Gm w) (ht : hd.size ≤ 65536) (xs : List S76) (p q : Int) (hpe : Parsed hd xs p q) :
    Calls Tryz.prog 59 #[.string hd] (W.alloc (.cells #[.int .i64 0, .int .i64 0] 71)) fun e w' => ∃ v', e = .returned (.tuple #[v', .int .i64 p, .int .i64 q]) ∧
      Art g text hd fd v body w' ∧ w'.heap[w.heap.size]? = some (.cells #[.int .i64 0, .int .i64 0] 71 (0, 0)) ∧ Kd.R k76 76 w' B (fun _ => True) v' xs ∧ Below B w w' ∧ KeepBut w w' g none := by
  obtain ⟨rfl, rfl, rfl⟩ := hpe
  exact parse_in B g w.heap.size text hd fd v body w _ (blk_alloc h _) (by rw [← hz]; exact blk_new W _) (hW.alloc (by omega) _) (keep_alloc hK _) (by simp; omega) h0 hgm ht

theorem head_post {B g : Nat} {text hd : ByteArray} {fd : Bool} {v body v5} {w w5 : World} {xs : List S76} {p q : Int} (hpe : Parsed hd xs p q)
    (ha : Art g text hd fd v body w5) (hf : w5.heap[w.heap.size]? = some (.cells #[.int .i64 0, .int .i64 0] 71 (0, 0)))
    (hr : Kd.R k76 76 w5 B (fun _ => True) v5 xs) (hb : Below B w w5) (hk : KeepBut w w5 g none) (hB : B ≤ g) (hg : g < w.heap.size) (hBw : B ≤ w.heap.size) :
    HeadPost B g text hd fd body w (.returned (.agg #[.int .i64 p, .int .i64 q]))
      (((w5.setCell ⟨g, 3, none⟩ v5).setCell ⟨w.heap.size, 0, none⟩ (.int .i64 p)).setCell ⟨w.heap.size, 1, none⟩ (.int .i64 q)) := by
  obtain ⟨rfl, rfl, rfl⟩ := hpe
  have h1 := blk_far hf (p := ⟨g, 3, none⟩) (by simp; omega) v5
  have h2 := blk_set h1 0 (.int .i64 (parseP hd.data.toList).2.1)
  have r1 := Kd.R_set hr ha (by decide) 3 v5
  have r2 := Kd.R_set r1 h1 (by decide) 0 (.int .i64 (parseP hd.data.toList).2.1)
  have r3 := Kd.R_set r2 h2 (by decide) 1 (.int .i64 (parseP hd.data.toList).2.2)
  refine ⟨v5, rfl, ?_, r3, ?_, keep_far (keep_far (hk.set_ 3 _) (Nat.le_refl _) 0 _) (Nat.le_refl _) 1 _⟩
  · exact blk_far (blk_far (blk_put ha 3 v5 rfl) (p := ⟨w.heap.size, 0, none⟩) (by simp; omega) _) (p := ⟨w.heap.size, 1, none⟩) (by simp; omega) _
  · exact ((hb.setCell (p := ⟨g, 3, none⟩) hB _).setCell (p := ⟨w.heap.size, 0, none⟩) hBw _).setCell (p := ⟨w.heap.size, 1, none⟩) hBw _

set_option maxHeartbeats 4000000 in
theorem header1 (B g : Nat) (text body : ByteArray) (v : Value) (w : World) (hB : B ≤ g) (h0 : 0 < B) (hgm : Gm w) (ht : text.size ≤ 65536) (h : Art g text ⟨#[]⟩ false v body w)
    (hp : Lib.hasPrefix text.data.toList [10] = true) :
    Calls Tryz.prog 34 #[.pointer (some ⟨g, 0, none⟩)] w (HeadPost B g text ⟨#[]⟩ true body w) := by
  have hc0 : w.cell? ⟨g, 0, none⟩ = some (.string text) := (blk_cell h 0).trans rfl
  have hc1 : w.cell? ⟨g, 1, none⟩ = some (.string ⟨#[]⟩) := (blk_cell h 1).trans rfl
  have hc2 : w.cell? ⟨g, 2, none⟩ = some (.bool false) := (blk_cell h 2).trans rfl
  have hf1 := blk_frozen h 1
  have hf2 := blk_frozen h 2
  have hf3 := blk_frozen h 3
  have hg : g < w.heap.size := (Array.getElem?_eq_some_iff.1 h).1
  have hW0 := ((Below.refl B w).setCell (p := ⟨g, 1, none⟩) hB (.string text)).setCell (p := ⟨g, 2, none⟩) hB (.bool true)
  have hW : Below B w ((((w.setCell ⟨g, 1, none⟩ (.string text)).setCell ⟨g, 2, none⟩ (.bool true)).alloc (.cells #[.int .i64 0, .int .i64 0] 71))) :=
    hW0.alloc (by simp; omega) _
  have hA := (blk_set (blk_set (blk_set h 1 (.string text)) 2 (.bool true)) 1 (.string ⟨#[]⟩)).trans rfl
  obtain ⟨xs, p, q, hpe⟩ : ∃ xs p q, Parsed ⟨#[]⟩ xs p q := ⟨_, _, _, rfl, rfl, rfl⟩
  have hP := parse_in2 B g text ⟨#[]⟩ true v body w _ hA (hW0.setCell (p := ⟨g, 1, none⟩) hB (.string ⟨#[]⟩)) ((((KeepBut.refl w g none).set_ 1 _).set_ 2 _).set_ 1 _) (by simp) (by omega) h0 hgm (by decide) xs p q hpe
  have HPE := Aside0.mk hpe
  clear hpe
  have HP := Aside0.mk hP
  have Hi := Lib.hid (fun W (hW : Below B w W) => index_any text ⟨#[10, 10]⟩ W (hgm.below hW h0) (by omega))
  have HW := Aside0.mk hW
  have Hp := Lib.hid hp
  clear h hp hgm hW hW0 hA hP
  go_enter Tryz.func34, Tryz.ntmps34
  go_wp2_with (first
    | (go_at_call 58; refine (Hi.out _ HW.out).mono ?_; rintro e w' ⟨rfl, rfl⟩)
    | (go_at_call 57; refine (Tryz.strings_HasPrefix text ⟨#[10]⟩ _).mono ?_; rintro e w' ⟨he, rfl⟩; rw [show Lib.hasPrefix text.data.toList (⟨#[10]⟩ : ByteArray).data.toList = true from Hp.out] at he; subst he)
    | (go_at_call 59; refine HP.out.mono ?_; rintro e w5 ⟨v5, rfl, ha5, hf5, hr5, hb5, hk5⟩; obtain ⟨A5, c5, e5⟩ := Kd.R_slice hr5; subst e5; have hcg3 : w5.cell? ⟨g, 3, none⟩ = some v := (blk_cell ha5 3).trans rfl; have hcf0 : w5.cell? ⟨w.heap.size, 0, none⟩ = some (.int .i64 0) := (blk_cell hf5 0).trans rfl; have hcf1 : w5.cell? ⟨w.heap.size, 1, none⟩ = some (.int .i64 0) := (blk_cell hf5 1).trans rfl; have hfz := blk_frozen ha5 3; have hfy := blk_frozen hf5 0; have hfx := blk_frozen hf5 1; have HA5 := Aside0.mk ha5; have HF5 := Aside0.mk hf5; have HR5 := Aside0.mk hr5; have HB5 := Aside0.mk hb5; have HK5 := Aside0.mk hk5; clear ha5 hf5 hr5 hb5 hk5))
  refine bodyPost_ret (results_cell_row rfl _ _ w.heap.size 71 #[_, _] (0, 0) _ rfl (blk_put (blk_put (blk_far HF5.out (p := ⟨g, 3, none⟩) (by simp; omega) _) 0 _ rfl) 1 _ rfl) Tryz.underlying71 rfl (by kernel_rfl)) rfl ?_
  exact head_post HPE.out HA5.out HF5.out HR5.out HB5.out HK5.out hB hg (by omega)

set_option maxHeartbeats 4000000 in
theorem header2 (B g : Nat) (text body : ByteArray) (v : Value) (w : World) (hB : B ≤ g) (h0 : 0 < B) (hgm : Gm w) (ht : text.size ≤ 65536) (h : Art g text ⟨#[]⟩ false v body w)
    (hp : Lib.hasPrefix text.data.toList [10] = false) (i : Int) (hix : Lib.index text.data.toList [10, 10] = i) (hi0 : 0 ≤ i) (hil : i + 1 ≤ text.size) :
    Calls Tryz.prog 34 #[.pointer (some ⟨g, 0, none⟩)] w (HeadPost B g text (text.extract 0 (i + 1).toNat) true body w) := by
  have hc0 : w.cell? ⟨g, 0, none⟩ = some (.string text) := (blk_cell h 0).trans rfl
  have hc1 : w.cell? ⟨g, 1, none⟩ = some (.string ⟨#[]⟩) := (blk_cell h 1).trans rfl
  have hc2 : w.cell? ⟨g, 2, none⟩ = some (.bool false) := (blk_cell h 2).trans rfl
  have hf1 := blk_frozen h 1
  have hf2 := blk_frozen h 2
  have hf3 := blk_frozen h 3
  have hg : g < w.heap.size := (Array.getElem?_eq_some_iff.1 h).1
  have hW0 := ((Below.refl B w).setCell (p := ⟨g, 1, none⟩) hB (.string text)).setCell (p := ⟨g, 2, none⟩) hB (.bool true)
  have hW : Below B w ((((w.setCell ⟨g, 1, none⟩ (.string text)).setCell ⟨g, 2, none⟩ (.bool true)).alloc (.cells #[.int .i64 0, .int .i64 0] 71))) :=
    hW0.alloc (by simp; omega) _
  have hA := (blk_set (blk_set (blk_set h 1 (.string text)) 2 (.bool true)) 1 (.string (text.extract 0 (i + 1).toNat))).trans rfl
  obtain ⟨xs, p, q, hpe⟩ : ∃ xs p q, Parsed (text.extract 0 (i + 1).toNat) xs p q := ⟨_, _, _, rfl, rfl, rfl⟩
  have hP := parse_in2 B g text (text.extract 0 (i + 1).toNat) true v body w _ hA (hW0.setCell (p := ⟨g, 1, none⟩) hB (.string (text.extract 0 (i + 1).toNat))) ((((KeepBut.refl w g none).set_ 1 _).set_ 2 _).set_ 1 _) (by simp) (by omega) h0 hgm (by simp; omega) xs p q hpe
  have HPE := Aside0.mk hpe
  clear hpe
  have HP := Aside0.mk hP
  have Hi := Lib.hid (fun W (hW : Below B w W) => index_any text ⟨#[10, 10]⟩ W (hgm.below hW h0) (by omega))
  have HW := Aside0.mk hW
  have Hp := Lib.hid hp
  have Hix := Lib.hid hix
  have hd0 : decide (0 ≤ i) = true := decide_eq_true hi0
  have hwr : wrap64 (i + 1) = i + 1 := (by unfold wrap64; omega)
  have hd1 : (0 ≤ i + 1) = True := eq_true (by omega)
  have hd2 : (i + 1 ≤ (text.size : Int)) = True := eq_true hil
  clear h hp hix hgm hW hW0 hA hP
  go_enter Tryz.func34, Tryz.ntmps34
  go_wp2_with (first
    | (go_at_call 58; refine (Hi.out _ HW.out).mono ?_; rintro e w' ⟨he, rfl⟩; rw [show Lib.index text.data.toList (⟨#[10, 10]⟩ : ByteArray).data.toList = i from Hix.out] at he; subst he)
    | (go_at_call 57; refine (Tryz.strings_HasPrefix text ⟨#[10]⟩ _).mono ?_; rintro e w' ⟨he, rfl⟩; rw [show Lib.hasPrefix text.data.toList (⟨#[10]⟩ : ByteArray).data.toList = false from Hp.out] at he; subst he)
    | (go_at_call 59; refine HP.out.mono ?_; rintro e w5 ⟨v5, rfl, ha5, hf5, hr5, hb5, hk5⟩; obtain ⟨A5, c5, e5⟩ := Kd.R_slice hr5; subst e5; have hcg3 : w5.cell? ⟨g, 3, none⟩ = some v := (blk_cell ha5 3).trans rfl; have hcf0 : w5.cell? ⟨w.heap.size, 0, none⟩ = some (.int .i64 0) := (blk_cell hf5 0).trans rfl; have hcf1 : w5.cell? ⟨w.heap.size, 1, none⟩ = some (.int .i64 0) := (blk_cell hf5 1).trans rfl; have hfz := blk_frozen ha5 3; have hfy := blk_frozen hf5 0; have hfx := blk_frozen hf5 1; have HA5 := Aside0.mk ha5; have HF5 := Aside0.mk hf5; have HR5 := Aside0.mk hr5; have HB5 := Aside0.mk hb5; have HK5 := Aside0.mk hk5; clear ha5 hf5 hr5 hb5 hk5))
  refine bodyPost_ret (results_cell_row rfl _ _ w.heap.size 71 #[_, _] (0, 0) _ rfl (blk_put (blk_put (blk_far HF5.out (p := ⟨g, 3, none⟩) (by simp; omega) _) 0 _ rfl) 1 _ rfl) Tryz.underlying71 rfl (by kernel_rfl)) rfl ?_
  exact head_post HPE.out HA5.out HF5.out HR5.out HB5.out HK5.out hB hg (by omega)

set_option maxHeartbeats 4000000 in
theorem header3 (B g : Nat) (text body : ByteArray) (v : Value) (w : World) (hB : B ≤ g) (h0 : 0 < B) (hgm : Gm w) (ht : text.size ≤ 65536) (h : Art g text ⟨#[]⟩ false v body w)
    (hp : Lib.hasPrefix text.data.toList [10] = false) (i : Int) (hix : Lib.index text.data.toList [10, 10] = i) (hi0 : i < 0) :
    Calls Tryz.prog 34 #[.pointer (some ⟨g, 0, none⟩)] w (HeadPost B g text text false body w) := by
  have hc0 : w.cell? ⟨g, 0, none⟩ = some (.string text) := (blk_cell h 0).trans rfl
  have hc1 : w.cell? ⟨g, 1, none⟩ = some (.string ⟨#[]⟩) := (blk_cell h 1).trans rfl
  have hc2 : w.cell? ⟨g, 2, none⟩ = some (.bool false) := (blk_cell h 2).trans rfl
  have hf1 := blk_frozen h 1
  have hf2 := blk_frozen h 2
  have hf3 := blk_frozen h 3
  have hg : g < w.heap.size := (Array.getElem?_eq_some_iff.1 h).1
  have hW0 := ((Below.refl B w).setCell (p := ⟨g, 1, none⟩) hB (.string text)).setCell (p := ⟨g, 2, none⟩) hB (.bool true)
  have hW : Below B w ((((w.setCell ⟨g, 1, none⟩ (.string text)).setCell ⟨g, 2, none⟩ (.bool true)).alloc (.cells #[.int .i64 0, .int .i64 0] 71))) :=
    hW0.alloc (by simp; omega) _
  have hA := (blk_set (blk_set (blk_set h 1 (.string text)) 2 (.bool true)) 2 (.bool false)).trans rfl
  obtain ⟨xs, p, q, hpe⟩ : ∃ xs p q, Parsed text xs p q := ⟨_, _, _, rfl, rfl, rfl⟩
  have hP := parse_in2 B g text text false v body w _ hA (hW0.setCell (p := ⟨g, 2, none⟩) hB (.bool false)) ((((KeepBut.refl w g none).set_ 1 _).set_ 2 _).set_ 2 _) (by simp) (by omega) h0 hgm ht xs p q hpe
  have HPE := Aside0.mk hpe
  clear hpe
  have HP := Aside0.mk hP
  have Hi := Lib.hid (fun W (hW : Below B w W) => index_any text ⟨#[10, 10]⟩ W (hgm.below hW h0) (by omega))
  have HW := Aside0.mk hW
  have Hp := Lib.hid hp
  have Hix := Lib.hid hix
  have hd0 : decide (0 ≤ i) = false := decide_eq_false (by omega)
  clear h hp hix hgm hW hW0 hA hP
  go_enter Tryz.func34, Tryz.ntmps34
  go_wp2_with (first
    | (go_at_call 58; refine (Hi.out _ HW.out).mono ?_; rintro e w' ⟨he, rfl⟩; rw [show Lib.index text.data.toList (⟨#[10, 10]⟩ : ByteArray).data.toList = i from Hix.out] at he; subst he)
    | (go_at_call 57; refine (Tryz.strings_HasPrefix text ⟨#[10]⟩ _).mono ?_; rintro e w' ⟨he, rfl⟩; rw [show Lib.hasPrefix text.data.toList (⟨#[10]⟩ : ByteArray).data.toList = false from Hp.out] at he; subst he)
    | (go_at_call 59; refine HP.out.mono ?_; rintro e w5 ⟨v5, rfl, ha5, hf5, hr5, hb5, hk5⟩; obtain ⟨A5, c5, e5⟩ := Kd.R_slice hr5; subst e5; have hcg3 : w5.cell? ⟨g, 3, none⟩ = some v := (blk_cell ha5 3).trans rfl; have hcf0 : w5.cell? ⟨w.heap.size, 0, none⟩ = some (.int .i64 0) := (blk_cell hf5 0).trans rfl; have hcf1 : w5.cell? ⟨w.heap.size, 1, none⟩ = some (.int .i64 0) := (blk_cell hf5 1).trans rfl; have hfz := blk_frozen ha5 3; have hfy := blk_frozen hf5 0; have hfx := blk_frozen hf5 1; have HA5 := Aside0.mk ha5; have HF5 := Aside0.mk hf5; have HR5 := Aside0.mk hr5; have HB5 := Aside0.mk hb5; have HK5 := Aside0.mk hk5; clear ha5 hf5 hr5 hb5 hk5))
  refine bodyPost_ret (results_cell_row rfl _ _ w.heap.size 71 #[_, _] (0, 0) _ rfl (blk_put (blk_put (blk_far HF5.out (p := ⟨g, 3, none⟩) (by simp; omega) _) 0 _ rfl) 1 _ rfl) Tryz.underlying71 rfl (by kernel_rfl)) rfl ?_
  exact head_post HPE.out HA5.out HF5.out HR5.out HB5.out HK5.out hB hg (by omega)

theorem aheader_any (B g : Nat) (text body : ByteArray) (v : Value) (w : World) (hB : B ≤ g) (h0 : 0 < B) (hgm : Gm w) (ht : text.size ≤ 65536) (h : Art g text ⟨#[]⟩ false v body w) :
    Calls Tryz.prog 34 #[.pointer (some ⟨g, 0, none⟩)] w (HeadPost B g text (headA text).1 (headA text).2 body w) := by
  unfold headA
  by_cases hp : Lib.hasPrefix text.data.toList [10] = true
  · rw [if_pos hp]; exact header1 B g text body v w hB h0 hgm ht h hp
  · rw [if_neg hp]
    by_cases hi : 0 ≤ Lib.index text.data.toList [10, 10]
    · rw [if_pos hi]
      have := index2_lt _ hi
      refine header2 B g text body v w hB h0 hgm ht h (Bool.eq_false_iff.2 hp) _ rfl hi (by simp at this; omega)
    · rw [if_neg hi]
      exact header3 B g text body v w hB h0 hgm ht h (Bool.eq_false_iff.2 hp) _ rfl (by omega)

set_option maxHeartbeats 4000000 in
theorem abody_any (B g : Nat) (text hd body : ByteArray) (v : Value) (w : World) (xs : List S76) (hB : B ≤ g) (h0 : 0 < B) (ht : text.size ≤ 65536) (hl : hd.size + 1 ≤ text.size)
    (h : Art g text hd true v body w) (hr : Kd.R k76 76 w B (fun _ => True) v xs) (k : Nat) (a c : Int) (hc : PC.article_CheckBody.f k (text.extract (hd.size + 1) text.size) = some (a, c)) :
    Calls Tryz.prog 36 #[.pointer (some ⟨g, 0, none⟩)] w fun e w' => e = .returned (failV (wrap64 (((hd.size : Int) + 1) + a)) c) ∧ Art g text hd true v (text.extract (hd.size + 1) text.size) w' ∧
      Kd.R k76 76 w' B (fun _ => True) v xs ∧ Below B w w' ∧ KeepBut w w' g none := by
  have hc0 : w.cell? ⟨g, 0, none⟩ = some (.string text) := (blk_cell h 0).trans rfl
  have hc1 : w.cell? ⟨g, 1, none⟩ = some (.string hd) := (blk_cell h 1).trans rfl
  have hc4 : w.cell? ⟨g, 4, none⟩ = some (.string body) := (blk_cell h 4).trans rfl
  have hf4 := blk_frozen h 4
  have hg : g < w.heap.size := (Array.getElem?_eq_some_iff.1 h).1
  obtain ⟨sub, hsub⟩ : ∃ sub, text.extract (hd.size + 1) text.size = sub := ⟨_, rfl⟩
  rw [hsub] at hc ⊢
  have hW0 := (Below.refl B w).setCell (p := ⟨g, 4, none⟩) hB (.string sub)
  have hA : Art g text hd true v sub (w.setCell ⟨g, 4, none⟩ (.string sub)) := (blk_set h 4 (.string sub)).trans rfl
  have hR0 := Kd.R_set hr h (by decide) 4 (.string sub)
  have hwr : wrap64 ((hd.size : Int) + 1) = (hd.size : Int) + 1 := by unfold wrap64; omega
  have hd1 : (0 ≤ (hd.size : Int) + 1) = True := eq_true (by omega)
  have hd2 : ((hd.size : Int) + 1 ≤ (text.size : Int)) = True := eq_true (by omega)
  have hti : ((hd.size : Int) + 1).toNat = hd.size + 1 := by omega
  have HP : Hid (Calls Tryz.prog 17 #[.string sub] ((w.setCell ⟨g, 4, none⟩ (.string sub)).alloc (.cells #[.int .i64 0, .int .i64 0] 71)) fun e w' =>
      e = .returned (.tuple #[.int .i64 a, .int .i64 c]) ∧ Art g text hd true v sub w' ∧ w'.heap[w.heap.size]? = some (.cells #[.int .i64 0, .int .i64 0] 71 (0, 0)) ∧
      Kd.R k76 76 w' B (fun _ => True) v xs ∧ Below B w w' ∧ KeepBut w w' g none) := by
    refine Lib.hid ((PC.article_CheckBody.calls k sub a c _ hc).mono ?_)
    rintro e w' ⟨he, hb⟩
    refine ⟨he, blk_below (blk_alloc hA _) hb, blk_below ?_ hb, ?_, ?_⟩
    · have := blk_new (w.setCell ⟨g, 4, none⟩ (.string sub)) (.cells #[.int .i64 0, .int .i64 0] 71)
      simpa using this
    · exact Kd.R_below (Kd.R_alloc hR0 _) hb
    · exact ⟨(hW0.alloc (by simp; omega) _).trans (hb.mono (by simp; omega)), keep_below (keep_alloc ((KeepBut.refl w g none).set_ 4 _) _) hb⟩
  have HB := Aside0.mk h
  clear h hr hc hW0 hA hR0
  subst hsub
  go_enter Tryz.func36, Tryz.ntmps36
  go_wp2_with (go_at_call 17; refine HP.out.mono ?_; rintro e w5 ⟨rfl, ha5, hf5, hr5, hb5, hk5⟩; have hcf0 : w5.cell? ⟨w.heap.size, 0, none⟩ = some (.int .i64 0) := (blk_cell hf5 0).trans rfl; have hcf1 : w5.cell? ⟨w.heap.size, 1, none⟩ = some (.int .i64 0) := (blk_cell hf5 1).trans rfl; have hfy := blk_frozen hf5 0; have hfx := blk_frozen hf5 1; have HA5 := Aside0.mk ha5; have HF5 := Aside0.mk hf5; have HR5 := Aside0.mk hr5; have HB5 := Aside0.mk hb5; have HK5 := Aside0.mk hk5; clear ha5 hf5 hr5 hb5 hk5)
  refine bodyPost_ret (results_cell_row rfl _ _ w.heap.size 71 #[_, _] (0, 0) _ rfl (blk_put (blk_put HF5.out 0 _ rfl) 1 _ rfl) Tryz.underlying71 rfl (by kernel_rfl)) rfl ?_
  have h2 := blk_set HF5.out 0 (.int .i64 (wrap64 ((hd.size : Int) + 1 + a)))
  have hBw : B ≤ w.heap.size := by omega
  refine ⟨rfl, ?_, Kd.R_set (Kd.R_set HR5.out HF5.out (by decide) 0 _) h2 (by decide) 1 _, ?_, keep_far (keep_far HK5.out (Nat.le_refl _) 0 _) (Nat.le_refl _) 1 _⟩
  · exact blk_far (blk_far HA5.out (p := ⟨w.heap.size, 0, none⟩) (by simp; omega) _) (p := ⟨w.heap.size, 1, none⟩) (by simp; omega) _
  · exact (HB5.out.setCell (p := ⟨w.heap.size, 0, none⟩) hBw _).setCell (p := ⟨w.heap.size, 1, none⟩) hBw _

end Go.Proofs.YtfeciafdioepiaaGreatDoor
set_option linter.unusedVariables false
set_option linter.unusedSimpArgs false
namespace Go.Proofs.YtfeciafdioepiaaGreatDoor
open Go.RowKit Go.Shelf Go.Proofs Go.Proofs.YtfeciafdioepiaaGreatDoorW.PrintWords Go.Proofs.YtfeciafdioepiaaGreatDoorW.PrintMore Go.Proofs.YtfeciafdioepiaaGreatDoor.PA
attribute [local go_sem] Oper.semAt_some

def fldsA (s : ByteArray) : List S76 := (parseP (headA s).1.data.toList).1.map toS
def atA (s : ByteArray) : Int := (parseP (headA s).1.data.toList).2.1
def errA (s : ByteArray) : Int := (parseP (headA s).1.data.toList).2.2
def restA (s : ByteArray) : ByteArray := s.extract ((headA s).1.size + 1) s.size
def GV.AParse.f (k : Nat) (s : ByteArray) : Option (List S76 × ByteArray × Int × Int) :=
  if 65536 < s.size then some ([], ⟨#[]⟩, 65536, 5)
  else if errA s ≠ 0 then some ([], ⟨#[]⟩, atA s, errA s)
  else if (headA s).2 = false then some ([], ⟨#[]⟩, (s.size : Int), 4)
  else (PC.article_CheckBody.f k (restA s)).bind fun x => if x.2 ≠ 0 then some ([], ⟨#[]⟩, wrap64 (((headA s).1.size : Int) + 1 + x.1), x.2) else some (fldsA s, restA s, 0, 0)
theorem headA_len (s : ByteArray) (h : (headA s).2 = true) : (headA s).1.size + 1 ≤ s.size := by
  unfold headA at h ⊢
  split
  · rename_i hp
    have h4 : [10] <+: s.data.toList := List.isPrefixOf_iff_prefix.1 hp
    have := h4.length_le
    simp at this
    show 0 + 1 ≤ s.size
    omega
  · split
    · rename_i h1 h2
      have := index2_lt _ h2
      simp at this ⊢
      omega
    · rename_i h1 h2
      simp [h1, h2] at h

/-- Where the parser stands ahead of a step. -/
def AtStep (k : Nat) (s : ByteArray) (g n : Nat) (wr : World) : Nat → Prop
  | 0 => Art g s ⟨#[]⟩ false (.slice none 0 0) ⟨#[]⟩ wr
  | 1 => s.size ≤ 65536 ∧ Art g s ⟨#[]⟩ false (.slice none 0 0) ⟨#[]⟩ wr
  | 2 => s.size ≤ 65536 ∧ errA s = 0 ∧ ∃ v, Art g s (headA s).1 (headA s).2 v ⟨#[]⟩ wr ∧ Kd.R k76 76 wr n (fun _ => True) v (fldsA s)
  | 3 => s.size ≤ 65536 ∧ errA s = 0 ∧ (headA s).2 = true ∧ ∃ v, Art g s (headA s).1 true v ⟨#[]⟩ wr ∧ Kd.R k76 76 wr n (fun _ => True) v (fldsA s)
  | 4 => s.size ≤ 65536 ∧ errA s = 0 ∧ (headA s).2 = true ∧ (∃ a, PC.article_CheckBody.f k (restA s) = some (a, 0)) ∧ ∃ v, Art g s (headA s).1 true v (restA s) wr ∧ Kd.R k76 76 wr n (fun _ => True) v (fldsA s)
  | _ => False

/-- A step of the parser: it fails, and the answer is known, or it goes on. -/
theorem step_any (k : Nat) (s : ByteArray) (g n : Nat) (wr : World) (j : Nat) (r : List S76 × ByteArray × Int × Int) (hB : n ≤ g) (h0 : 0 < n) (hgm : Gm wr) (hf : GV.AParse.f k s = some r) (hj : j < 4) (h : AtStep k s g n wr j) :
    (∃ a c, c ≠ 0 ∧ r = ([], ⟨#[]⟩, a, c) ∧ Calls Tryz.prog (33 + j) #[.pointer (some ⟨g, 0, none⟩)] wr fun e w' => e = .returned (failV a c) ∧ Below n wr w' ∧ KeepBut wr w' g none) ∨
    (∃ a, Calls Tryz.prog (33 + j) #[.pointer (some ⟨g, 0, none⟩)] wr fun e w' => e = .returned (failV a 0) ∧ AtStep k s g n w' (j + 1) ∧ Below n wr w' ∧ KeepBut wr w' g none) := by
  have hkeep : ∀ {w' : World}, Below wr.heap.size wr w' → KeepBut wr w' g none := fun hb => keep_below (KeepBut.refl wr g none) hb
  have hnle : n ≤ wr.heap.size := by
    have : g < wr.heap.size := by
      match j, h with
      | 0, h => exact blk_lt h
      | 1, h => exact blk_lt h.2
      | 2, h => obtain ⟨_, _, v, ha, _⟩ := h; exact blk_lt ha
      | 3, h => obtain ⟨_, _, _, v, ha, _⟩ := h; exact blk_lt ha
    omega
  unfold GV.AParse.f at hf
  match j, hj, h with
  | 0, _, h =>
    have hL := length_any _ _ _ _ _ _ _ h
    by_cases hz : 65536 < s.size
    · rw [if_pos hz] at hf hL
      refine .inl ⟨65536, 5, by decide, by simpa using hf.symm, hL.mono ?_⟩
      rintro e w' ⟨he, hb⟩
      exact ⟨he, hb.mono hnle, hkeep hb⟩
    · rw [if_neg hz] at hL
      refine .inr ⟨0, hL.mono ?_⟩
      rintro e w' ⟨he, hb⟩
      exact ⟨he, ⟨by omega, blk_below h hb⟩, hb.mono hnle, hkeep hb⟩
  | 1, _, h =>
    obtain ⟨hz, ha⟩ := h
    rw [if_neg (by omega)] at hf
    have hH := aheader_any n g s ⟨#[]⟩ _ wr hB h0 hgm hz ha
    by_cases he : errA s = 0
    · refine .inr ⟨atA s, hH.mono ?_⟩
      rintro e w' ⟨v', hr, hA, hR, hb, hk⟩
      refine ⟨?_, ⟨hz, he, v', hA, hR⟩, hb, hk⟩
      rw [hr]; show Ending.returned (failV (atA s) (errA s)) = _; rw [he]
    · rw [if_pos he] at hf
      refine .inl ⟨atA s, errA s, he, by simpa using hf.symm, hH.mono ?_⟩
      rintro e w' ⟨v', hr, hA, hR, hb, hk⟩
      exact ⟨hr, hb, hk⟩
  | 2, _, h =>
    obtain ⟨hz, he, v, ha, hR⟩ := h
    rw [if_neg (by omega), if_neg (by simp [he])] at hf
    have hS := separation_any _ _ _ _ _ _ _ ha
    by_cases hfd : (headA s).2 = true
    · rw [if_pos hfd] at hS
      refine .inr ⟨0, hS.mono ?_⟩
      rintro e w' ⟨hr, hb⟩
      refine ⟨hr, ⟨hz, he, hfd, v, ?_, Kd.R_below hR hb⟩, hb.mono hnle, hkeep hb⟩
      rw [hfd] at ha
      exact blk_below ha hb
    · rw [if_neg hfd] at hS
      rw [if_pos (Bool.eq_false_iff.2 hfd)] at hf
      refine .inl ⟨(s.size : Int), 4, by decide, by simpa using hf.symm, hS.mono ?_⟩
      rintro e w' ⟨hr, hb⟩
      exact ⟨hr, hb.mono hnle, hkeep hb⟩
  | 3, _, h =>
    obtain ⟨hz, he, hfd, v, ha, hR⟩ := h
    rw [if_neg (by omega), if_neg (by simp [he]), if_neg (by simp [hfd])] at hf
    have hlen := headA_len s hfd
    cases hc : PC.article_CheckBody.f k (restA s) with
    | none => rw [hc] at hf; simp at hf
    | some x =>
      obtain ⟨a, c⟩ := x
      rw [hc] at hf
      have hB' := abody_any n g s (headA s).1 ⟨#[]⟩ v wr (fldsA s) hB h0 hz hlen ha hR k a c hc
      simp only [Option.bind_some] at hf
      by_cases hc0 : c = 0
      · subst hc0
        refine .inr ⟨wrap64 (((headA s).1.size : Int) + 1 + a), hB'.mono ?_⟩
        rintro e w' ⟨hr, hA, hR', hb, hk⟩
        exact ⟨hr, ⟨hz, he, hfd, ⟨a, hc⟩, v, hA, hR'⟩, hb, hk⟩
      · rw [if_pos hc0] at hf
        refine .inl ⟨_, c, hc0, by simpa using hf.symm, hB'.mono ?_⟩
        rintro e w' ⟨hr, hA, hR', hb, hk⟩
        exact ⟨hr, hb, hk⟩

theorem AtStep.below {k : Nat} {s : ByteArray} {g n : Nat} {w w' : World} {j : Nat} (h : AtStep k s g n w j) (hb : Below w.heap.size w w') : AtStep k s g n w' j := by
  match j, h with
  | 0, h => exact blk_below h hb
  | 1, h => exact ⟨h.1, blk_below h.2 hb⟩
  | 2, ⟨h1, h2, v, ha, hr⟩ => exact ⟨h1, h2, v, blk_below ha hb, Kd.R_below hr hb⟩
  | 3, ⟨h1, h2, h3, v, ha, hr⟩ => exact ⟨h1, h2, h3, v, blk_below ha hb, Kd.R_below hr hb⟩
  | 4, ⟨h1, h2, h3, h4, v, ha, hr⟩ => exact ⟨h1, h2, h3, h4, v, blk_below ha hb, Kd.R_below hr hb⟩
theorem blk_at2 (w : World) (o o1 : Obj) : ((w.alloc o).alloc o1).heap[w.heap.size + 1]? = some o1 := heap_alloc2_new w o o1
theorem blk_at3 (w : World) (o o1 o2 : Obj) : (((w.alloc o).alloc o1).alloc o2).heap[w.heap.size + 1 + 1]? = some o2 := by
  have := heap_alloc2_new (w.alloc o) o1 o2
  simpa using this
set_option maxHeartbeats 8000000 in
theorem GV.AParse.calls (k : Nat) (s : ByteArray) (r1 : List S76) (r2 : ByteArray) (r3 r4 : Int) (w : World) (hgm : Gm w) (h : GV.AParse.f k s = some (r1, r2, r3, r4)) :
    Calls Tryz.prog 12 #[.string s] w fun e w' => ∃ v0 : Value, e = .returned (.tuple #[.agg #[v0, .string r2], .int .i64 r3, .int .i64 r4]) ∧ Kd.R k76 76 w' w.heap.size (fun _ => True) v0 r1 ∧ Below w.heap.size w w' := by
  have H := Lib.hid h
  have HG := Aside0.mk hgm
  have h0 : 0 < w.heap.size := by
    obtain ⟨m, hm⟩ := hgm
    exact Nat.lt_of_le_of_lt (Nat.zero_le _) (World.block_lt_of_cell? w _ hm)
  clear h hgm
  go_enter Tryz.func12, Tryz.ntmps12
  go_wp2
  go_loopg [22] 5 (fun kq v22 wr => ∃ j : Nat, v22 = .int .i64 (j : Int) ∧ Aside0 (AtStep k s (w.heap.size + 1) w.heap.size wr j) ∧ Aside0 (wr.heap[w.heap.size]? = some (.cells #[.slice none 0 0, .string ⟨#[]⟩] 25 (0, 0))) ∧
    Aside0 (wr.heap[w.heap.size + 1 + 1]? = some (.cells #[.func (.func 33) #[.pointer (some ⟨w.heap.size + 1, 0, none⟩)] #[], .func (.func 34) #[.pointer (some ⟨w.heap.size + 1, 0, none⟩)] #[],
      .func (.func 35) #[.pointer (some ⟨w.heap.size + 1, 0, none⟩)] #[], .func (.func 36) #[.pointer (some ⟨w.heap.size + 1, 0, none⟩)] #[]] 68 (0, 0))) ∧ Aside0 (Below w.heap.size w wr) ∧ Aside0 (j + kq = 5))
  case atStart =>
    exact ⟨0, rfl, ⟨blk_alloc (blk_at2 w _ _) _⟩, ⟨blk_alloc (blk_alloc (blk_new w _) _) _⟩, ⟨blk_at3 w _ _ _⟩, ⟨below_alloc (below_alloc (below_alloc (Below.refl _ _) _) _) _⟩, ⟨rfl⟩⟩
  case round =>
    obtain ⟨j, rfl, HS, HR, HF, HW, HJ⟩ := hrel
    have hn1 : w.heap.size < wr.heap.size := blk_lt HR.out
    have hn2 : w.heap.size + 1 + 1 < wr.heap.size := blk_lt HF.out
    have hgw : Gm wr := HG.out.below HW.out h0
    match j, HS, HJ with
    | 0, HS, HJ =>
      obtain ⟨gk, rfl⟩ : ∃ m, gk = m + 1 := ⟨gk - 1, by have := HJ.out; omega⟩
      have hcf : wr.cell? ⟨w.heap.size + 1 + 1, 0, none⟩ = some (.func (.func 33) #[.pointer (some ⟨w.heap.size + 1, 0, none⟩)] #[]) := (blk_cell HF.out 0).trans rfl
      rcases step_any k s (w.heap.size + 1) w.heap.size wr 0 _ (Nat.le_succ _) h0 hgw H.out (by decide) HS.out with ⟨a, c, hc, hres, hL⟩ | ⟨a, hL⟩
      · have HL := Lib.hid hL
        obtain ⟨rfl, rfl, rfl, rfl⟩ : r1 = [] ∧ r2 = ⟨#[]⟩ ∧ r3 = a ∧ r4 = c := by simpa using hres
        have hcb : (r4 != 0) = true := bne_iff_ne.2 hc
        clear hL hc hgw
        go_wp2_with (go_at_call 33; refine HL.out.mono ?_; rintro e w5 ⟨rfl, hb5, hk5⟩; unfold failV; have hr5 := (hk5.2 _ hn1 (by omega) (by simp)).trans HR.out; have hf5 := (hk5.2 _ hn2 (by omega) (by simp)).trans HF.out; have hcn0 : w5.cell? ⟨w.heap.size, 0, none⟩ = some (.slice none 0 0) := (blk_cell hr5 0).trans rfl; have hcn1 : w5.cell? ⟨w.heap.size, 1, none⟩ = some (.string ⟨#[]⟩) := (blk_cell hr5 1).trans rfl; have hfn0 := blk_frozen hr5 0; have hfn1 := blk_frozen hr5 1; have hlt5 := blk_lt hr5; have HR5 := Aside0.mk hr5; have HF5 := Aside0.mk hf5; have HB5 := Aside0.mk (HW.out.trans hb5); clear hb5 hr5 hf5 hk5)
        go_region_with (fail)
        all_goals (
          go_wp2
          refine bodyPost_ret (results_ctt rfl _ _ _ 25 #[.slice none 0 0, .string ⟨#[]⟩] (0, 0) _ rfl (by repeat (first | assumption | exact (Aside0.out (by assumption)) | refine blk_drewN ?_ _ | refine blk_drew ?_ | refine blk_alloc ?_ _ | refine blk_put (cs := #[.slice none 0 0, .string ⟨#[]⟩]) ?_ _ _ rfl)) Tryz.underlying25 rfl (by kernel_rfl)) rfl ?_
          exact ⟨.slice none 0 0, rfl, Kd.R_nil _ _ _ _ _, by repeat (first | exact (Aside0.out (by assumption)) | apply below_alloc | apply pw_below_drewN | apply below_drew1 | refine below_set ?_ (Nat.le_refl _))⟩)
      · have HL := Lib.hid hL
        clear hL hgw
        go_wp2_with (go_at_call 33; refine HL.out.mono ?_; rintro e w5 ⟨rfl, hs5, hb5, hk5⟩; unfold failV; have HS5 := Aside0.mk hs5; clear hs5; have hr5 := (hk5.2 _ hn1 (by omega) (by simp)).trans HR.out; have hf5 := (hk5.2 _ hn2 (by omega) (by simp)).trans HF.out; have hcn0 : w5.cell? ⟨w.heap.size, 0, none⟩ = some (.slice none 0 0) := (blk_cell hr5 0).trans rfl; have hcn1 : w5.cell? ⟨w.heap.size, 1, none⟩ = some (.string ⟨#[]⟩) := (blk_cell hr5 1).trans rfl; have hfn0 := blk_frozen hr5 0; have hfn1 := blk_frozen hr5 1; have hlt5 := blk_lt hr5; have HR5 := Aside0.mk hr5; have HF5 := Aside0.mk hf5; have HB5 := Aside0.mk (HW.out.trans hb5); clear hb5 hr5 hf5 hk5)
        go_roundg gk
        case measure => omega
        case rel => exact ⟨1, rfl, ⟨HS5.out.below ((Below.refl _ _).alloc (Nat.le_refl _) _)⟩, ⟨blk_alloc HR5.out _⟩, ⟨blk_alloc HF5.out _⟩, ⟨below_alloc HB5.out _⟩, ⟨by have := HJ.out; omega⟩⟩
    | 1, HS, HJ =>
      obtain ⟨gk, rfl⟩ : ∃ m, gk = m + 1 := ⟨gk - 1, by have := HJ.out; omega⟩
      have hcf : wr.cell? ⟨w.heap.size + 1 + 1, 1, none⟩ = some (.func (.func 34) #[.pointer (some ⟨w.heap.size + 1, 0, none⟩)] #[]) := (blk_cell HF.out 1).trans rfl
      rcases step_any k s (w.heap.size + 1) w.heap.size wr 1 _ (Nat.le_succ _) h0 hgw H.out (by decide) HS.out with ⟨a, c, hc, hres, hL⟩ | ⟨a, hL⟩
      · have HL := Lib.hid hL
        obtain ⟨rfl, rfl, rfl, rfl⟩ : r1 = [] ∧ r2 = ⟨#[]⟩ ∧ r3 = a ∧ r4 = c := by simpa using hres
        have hcb : (r4 != 0) = true := bne_iff_ne.2 hc
        clear hL hc hgw
        go_wp2_with (go_at_call 34; refine HL.out.mono ?_; rintro e w5 ⟨rfl, hb5, hk5⟩; unfold failV; have hr5 := (hk5.2 _ hn1 (by omega) (by simp)).trans HR.out; have hf5 := (hk5.2 _ hn2 (by omega) (by simp)).trans HF.out; have hcn0 : w5.cell? ⟨w.heap.size, 0, none⟩ = some (.slice none 0 0) := (blk_cell hr5 0).trans rfl; have hcn1 : w5.cell? ⟨w.heap.size, 1, none⟩ = some (.string ⟨#[]⟩) := (blk_cell hr5 1).trans rfl; have hfn0 := blk_frozen hr5 0; have hfn1 := blk_frozen hr5 1; have hlt5 := blk_lt hr5; have HR5 := Aside0.mk hr5; have HF5 := Aside0.mk hf5; have HB5 := Aside0.mk (HW.out.trans hb5); clear hb5 hr5 hf5 hk5)
        go_region_with (fail)
        all_goals (
          go_wp2
          refine bodyPost_ret (results_ctt rfl _ _ _ 25 #[.slice none 0 0, .string ⟨#[]⟩] (0, 0) _ rfl (by repeat (first | assumption | exact (Aside0.out (by assumption)) | refine blk_drewN ?_ _ | refine blk_drew ?_ | refine blk_alloc ?_ _ | refine blk_put (cs := #[.slice none 0 0, .string ⟨#[]⟩]) ?_ _ _ rfl)) Tryz.underlying25 rfl (by kernel_rfl)) rfl ?_
          exact ⟨.slice none 0 0, rfl, Kd.R_nil _ _ _ _ _, by repeat (first | exact (Aside0.out (by assumption)) | apply below_alloc | apply pw_below_drewN | apply below_drew1 | refine below_set ?_ (Nat.le_refl _))⟩)
      · have HL := Lib.hid hL
        clear hL hgw
        go_wp2_with (go_at_call 34; refine HL.out.mono ?_; rintro e w5 ⟨rfl, hs5, hb5, hk5⟩; unfold failV; have HS5 := Aside0.mk hs5; clear hs5; have hr5 := (hk5.2 _ hn1 (by omega) (by simp)).trans HR.out; have hf5 := (hk5.2 _ hn2 (by omega) (by simp)).trans HF.out; have hcn0 : w5.cell? ⟨w.heap.size, 0, none⟩ = some (.slice none 0 0) := (blk_cell hr5 0).trans rfl; have hcn1 : w5.cell? ⟨w.heap.size, 1, none⟩ = some (.string ⟨#[]⟩) := (blk_cell hr5 1).trans rfl; have hfn0 := blk_frozen hr5 0; have hfn1 := blk_frozen hr5 1; have hlt5 := blk_lt hr5; have HR5 := Aside0.mk hr5; have HF5 := Aside0.mk hf5; have HB5 := Aside0.mk (HW.out.trans hb5); clear hb5 hr5 hf5 hk5)
        go_roundg gk
        case measure => omega
        case rel => exact ⟨2, rfl, ⟨HS5.out.below ((Below.refl _ _).alloc (Nat.le_refl _) _)⟩, ⟨blk_alloc HR5.out _⟩, ⟨blk_alloc HF5.out _⟩, ⟨below_alloc HB5.out _⟩, ⟨by have := HJ.out; omega⟩⟩
    | 2, HS, HJ =>
      obtain ⟨gk, rfl⟩ : ∃ m, gk = m + 1 := ⟨gk - 1, by have := HJ.out; omega⟩
      have hcf : wr.cell? ⟨w.heap.size + 1 + 1, 2, none⟩ = some (.func (.func 35) #[.pointer (some ⟨w.heap.size + 1, 0, none⟩)] #[]) := (blk_cell HF.out 2).trans rfl
      rcases step_any k s (w.heap.size + 1) w.heap.size wr 2 _ (Nat.le_succ _) h0 hgw H.out (by decide) HS.out with ⟨a, c, hc, hres, hL⟩ | ⟨a, hL⟩
      · have HL := Lib.hid hL
        obtain ⟨rfl, rfl, rfl, rfl⟩ : r1 = [] ∧ r2 = ⟨#[]⟩ ∧ r3 = a ∧ r4 = c := by simpa using hres
        have hcb : (r4 != 0) = true := bne_iff_ne.2 hc
        clear hL hc hgw
        go_wp2_with (go_at_call 35; refine HL.out.mono ?_; rintro e w5 ⟨rfl, hb5, hk5⟩; unfold failV; have hr5 := (hk5.2 _ hn1 (by omega) (by simp)).trans HR.out; have hf5 := (hk5.2 _ hn2 (by omega) (by simp)).trans HF.out; have hcn0 : w5.cell? ⟨w.heap.size, 0, none⟩ = some (.slice none 0 0) := (blk_cell hr5 0).trans rfl; have hcn1 : w5.cell? ⟨w.heap.size, 1, none⟩ = some (.string ⟨#[]⟩) := (blk_cell hr5 1).trans rfl; have hfn0 := blk_frozen hr5 0; have hfn1 := blk_frozen hr5 1; have hlt5 := blk_lt hr5; have HR5 := Aside0.mk hr5; have HF5 := Aside0.mk hf5; have HB5 := Aside0.mk (HW.out.trans hb5); clear hb5 hr5 hf5 hk5)
        go_region_with (fail)
        all_goals (
          go_wp2
          refine bodyPost_ret (results_ctt rfl _ _ _ 25 #[.slice none 0 0, .string ⟨#[]⟩] (0, 0) _ rfl (by repeat (first | assumption | exact (Aside0.out (by assumption)) | refine blk_drewN ?_ _ | refine blk_drew ?_ | refine blk_alloc ?_ _ | refine blk_put (cs := #[.slice none 0 0, .string ⟨#[]⟩]) ?_ _ _ rfl)) Tryz.underlying25 rfl (by kernel_rfl)) rfl ?_
          exact ⟨.slice none 0 0, rfl, Kd.R_nil _ _ _ _ _, by repeat (first | exact (Aside0.out (by assumption)) | apply below_alloc | apply pw_below_drewN | apply below_drew1 | refine below_set ?_ (Nat.le_refl _))⟩)
      · have HL := Lib.hid hL
        clear hL hgw
        go_wp2_with (go_at_call 35; refine HL.out.mono ?_; rintro e w5 ⟨rfl, hs5, hb5, hk5⟩; unfold failV; have HS5 := Aside0.mk hs5; clear hs5; have hr5 := (hk5.2 _ hn1 (by omega) (by simp)).trans HR.out; have hf5 := (hk5.2 _ hn2 (by omega) (by simp)).trans HF.out; have hcn0 : w5.cell? ⟨w.heap.size, 0, none⟩ = some (.slice none 0 0) := (blk_cell hr5 0).trans rfl; have hcn1 : w5.cell? ⟨w.heap.size, 1, none⟩ = some (.string ⟨#[]⟩) := (blk_cell hr5 1).trans rfl; have hfn0 := blk_frozen hr5 0; have hfn1 := blk_frozen hr5 1; have hlt5 := blk_lt hr5; have HR5 := Aside0.mk hr5; have HF5 := Aside0.mk hf5; have HB5 := Aside0.mk (HW.out.trans hb5); clear hb5 hr5 hf5 hk5)
        go_roundg gk
        case measure => omega
        case rel => exact ⟨3, rfl, ⟨HS5.out.below ((Below.refl _ _).alloc (Nat.le_refl _) _)⟩, ⟨blk_alloc HR5.out _⟩, ⟨blk_alloc HF5.out _⟩, ⟨below_alloc HB5.out _⟩, ⟨by have := HJ.out; omega⟩⟩
    | 3, HS, HJ =>
      obtain ⟨gk, rfl⟩ : ∃ m, gk = m + 1 := ⟨gk - 1, by have := HJ.out; omega⟩
      have hcf : wr.cell? ⟨w.heap.size + 1 + 1, 3, none⟩ = some (.func (.func 36) #[.pointer (some ⟨w.heap.size + 1, 0, none⟩)] #[]) := (blk_cell HF.out 3).trans rfl
      rcases step_any k s (w.heap.size + 1) w.heap.size wr 3 _ (Nat.le_succ _) h0 hgw H.out (by decide) HS.out with ⟨a, c, hc, hres, hL⟩ | ⟨a, hL⟩
      · have HL := Lib.hid hL
        obtain ⟨rfl, rfl, rfl, rfl⟩ : r1 = [] ∧ r2 = ⟨#[]⟩ ∧ r3 = a ∧ r4 = c := by simpa using hres
        have hcb : (r4 != 0) = true := bne_iff_ne.2 hc
        clear hL hc hgw
        go_wp2_with (go_at_call 36; refine HL.out.mono ?_; rintro e w5 ⟨rfl, hb5, hk5⟩; unfold failV; have hr5 := (hk5.2 _ hn1 (by omega) (by simp)).trans HR.out; have hf5 := (hk5.2 _ hn2 (by omega) (by simp)).trans HF.out; have hcn0 : w5.cell? ⟨w.heap.size, 0, none⟩ = some (.slice none 0 0) := (blk_cell hr5 0).trans rfl; have hcn1 : w5.cell? ⟨w.heap.size, 1, none⟩ = some (.string ⟨#[]⟩) := (blk_cell hr5 1).trans rfl; have hfn0 := blk_frozen hr5 0; have hfn1 := blk_frozen hr5 1; have hlt5 := blk_lt hr5; have HR5 := Aside0.mk hr5; have HF5 := Aside0.mk hf5; have HB5 := Aside0.mk (HW.out.trans hb5); clear hb5 hr5 hf5 hk5)
        go_region_with (fail)
        all_goals (
          go_wp2
          refine bodyPost_ret (results_ctt rfl _ _ _ 25 #[.slice none 0 0, .string ⟨#[]⟩] (0, 0) _ rfl (by repeat (first | assumption | exact (Aside0.out (by assumption)) | refine blk_drewN ?_ _ | refine blk_drew ?_ | refine blk_alloc ?_ _ | refine blk_put (cs := #[.slice none 0 0, .string ⟨#[]⟩]) ?_ _ _ rfl)) Tryz.underlying25 rfl (by kernel_rfl)) rfl ?_
          exact ⟨.slice none 0 0, rfl, Kd.R_nil _ _ _ _ _, by repeat (first | exact (Aside0.out (by assumption)) | apply below_alloc | apply pw_below_drewN | apply below_drew1 | refine below_set ?_ (Nat.le_refl _))⟩)
      · have HL := Lib.hid hL
        clear hL hgw
        go_wp2_with (go_at_call 36; refine HL.out.mono ?_; rintro e w5 ⟨rfl, hs5, hb5, hk5⟩; unfold failV; have HS5 := Aside0.mk hs5; clear hs5; have hr5 := (hk5.2 _ hn1 (by omega) (by simp)).trans HR.out; have hf5 := (hk5.2 _ hn2 (by omega) (by simp)).trans HF.out; have hcn0 : w5.cell? ⟨w.heap.size, 0, none⟩ = some (.slice none 0 0) := (blk_cell hr5 0).trans rfl; have hcn1 : w5.cell? ⟨w.heap.size, 1, none⟩ = some (.string ⟨#[]⟩) := (blk_cell hr5 1).trans rfl; have hfn0 := blk_frozen hr5 0; have hfn1 := blk_frozen hr5 1; have hlt5 := blk_lt hr5; have HR5 := Aside0.mk hr5; have HF5 := Aside0.mk hf5; have HB5 := Aside0.mk (HW.out.trans hb5); clear hb5 hr5 hf5 hk5)
        go_roundg gk
        case measure => omega
        case rel => exact ⟨4, rfl, ⟨HS5.out.below ((Below.refl _ _).alloc (Nat.le_refl _) _)⟩, ⟨blk_alloc HR5.out _⟩, ⟨blk_alloc HF5.out _⟩, ⟨below_alloc HB5.out _⟩, ⟨by have := HJ.out; omega⟩⟩
    | 4, HS, HJ =>
      obtain ⟨gk, rfl⟩ : ∃ m, gk = m + 1 := ⟨gk - 1, by have := HJ.out; omega⟩
      obtain ⟨hz, he, hfd, ⟨a, hcb⟩, v, ha, hR⟩ := HS.out
      have hres : r1 = fldsA s ∧ r2 = restA s ∧ r3 = 0 ∧ r4 = 0 := by
        have hf := H.out
        unfold GV.AParse.f at hf
        rw [if_neg (by omega), if_neg (by simp [he]), if_neg (by simp [hfd]), hcb] at hf
        simp at hf
        obtain ⟨h1, h2, h3, h4⟩ := hf
        exact ⟨h1.symm, h2.symm, h3.symm, h4.symm⟩
      obtain ⟨rfl, rfl, rfl, rfl⟩ := hres
      have hcn0 : wr.cell? ⟨w.heap.size, 0, none⟩ = some (.slice none 0 0) := (blk_cell HR.out 0).trans rfl
      have hcn1 : wr.cell? ⟨w.heap.size, 1, none⟩ = some (.string ⟨#[]⟩) := (blk_cell HR.out 1).trans rfl
      have hcg3 : wr.cell? ⟨w.heap.size + 1, 3, none⟩ = some v := (blk_cell ha 3).trans rfl
      have hcg4 : wr.cell? ⟨w.heap.size + 1, 4, none⟩ = some (.string (restA s)) := (blk_cell ha 4).trans rfl
      have hfn0 := blk_frozen HR.out 0
      have hfn1 := blk_frozen HR.out 1
      obtain ⟨A5, c5, e5⟩ := Kd.R_slice hR
      subst e5
      have HA := Aside0.mk ha
      have HR0 := Aside0.mk hR
      clear ha hR hcb hgw hz he hfd
      go_wp2
      refine bodyPost_ret (results_ctt rfl _ _ _ 25 #[.slice A5 _ c5, .string (restA s)] (0, 0) _ rfl (blk_put (blk_put HR.out 0 _ rfl) 1 _ rfl) Tryz.underlying25 rfl (by kernel_rfl)) rfl ?_
      exact ⟨_, rfl, Kd.R_set (Kd.R_set HR0.out HR.out (by decide) 0 _) (blk_set HR.out 0 _) (by decide) 1 _, below_set (below_set HW.out (Nat.le_refl _)) (Nat.le_refl _)⟩
    | j + 5, HS, HJ => exact HS.out.elim

end Go.Proofs.YtfeciafdioepiaaGreatDoor
set_option linter.unusedVariables false
set_option linter.unusedSimpArgs false
namespace Go.Proofs.YtfeciafdioepiaaGreatDoor
open Go.RowKit Go.Shelf Go.Proofs

theorem range_law2 {α : Type} {n : Nat} {P : Program} {g : Operand} {ps : Array Tmp} {assign body : Code} {Q : Exit → Act → World → Prop} {a : Act} {w : World}
    {gf : Nat} {lb : Array Value} (hg : a.eval g = .func (.func gf) #[] lb) (eg : ∀ args w, (callFunc gf args).run P w = .ok (.enter gf args) w)
    {encs : α → Array Value} {In : World → Prop} {Mv : World → World → Prop} {Rd : World → Prop} {S Sp : List α → Prop} {Lt : List α → α → Prop} (hseq : Iter P gf lb encs In Mv Rd S Sp Lt)
    (hMv : ∀ W W', Mv W W' → KeepsOthers W W') (hps : ∀ x, (encs x).size = ps.size)
    (I : List α → World → Prop) (Ix : Code → List α → World → Prop) (hIm : ∀ pre W W', I pre W → Mv W W' → I pre W') (hIr : ∀ pre W, I pre W → Rd W)
    (hIp : ∀ pre W l o, w.heap.size ≤ l → (∃ o0, W.heap[l]? = some o0 ∧ o0.isCells = false) → I pre W → I pre (W.putObj l o)) (hIxp : ∀ c pre W l o, w.heap.size ≤ l → (∃ o0, W.heap[l]? = some o0 ∧ o0.isCells = false) → Ix c pre W → Ix c pre (W.putObj l o))
    (h0 : ∀ o o', I [] ((w.alloc o).alloc o')) (hin : ∀ o o', In ((w.alloc o).alloc o')) (a₁ : α → Act)
    (hassign : ∀ (l : Nat) (x : α) (W : World) (K : Act → World → Prop), K (a₁ x) W →
      assign.wpIn (Fence.wide.inRound l) (n - 1 - 1) P (Exit.then K (fun _ _ _ => False)) { tmps := (ps.zip (encs x)).foldl (fun t (p, v) => t.setIfInBounds p v) a.tmps, defers := [] } W)
    (hbody : ∀ (l : Nat) (pre : List α) (x : α) (W : World), I pre W → Lt pre x → body.wpIn (Fence.wide.inRound l) (n - 1 - 1) P (roundEnds I Ix (pre ++ [x]) W) (a₁ x) W)
    (hdone : ∀ (D : Nat) (xs : List α) (W : World), w.heap.size ≤ D → S xs → I xs W → W.heap[D]? = some (.deferred (some [])) → Q .normal { a with defers := { target := .collected D, args := #[] } :: a.defers } W)
    (hstop : ∀ (D : Nat) (c : Code) (pre : List α) (W : World), w.heap.size ≤ D → Sp pre → Ix c pre W → W.heap[D]? = some (.deferred (some [])) → c.wpIn Fence.wide n P Q { a with defers := { target := .collected D, args := #[] } :: a.defers } W) :
    (Code.rangeFunc g ps assign body).wpIn Fence.wide n P Q a w := by
  refine wpIn_rangeFunc fun fn hfn => ?_
  generalize hD : w.heap.size = D at *
  let R : LoopState → Option Code → Obj := fun st pe => .loop { state := st, pending := pe, fn, tmps := a.tmps, params := ps, assign, body, defers := D }
  let W1 := (w.alloc (.deferred (some []))).alloc (R .ready none)
  have hL : W1.heap[D + 1]? = some (R .ready none) := by
    have := World.alloc_heap_new (w.alloc (.deferred (some []))) (R .ready none)
    rwa [World.size_alloc, hD] at this
  have hK : W1.heap[D]? = some (.deferred (some [])) := by
    have h1 : (w.alloc (.deferred (some []))).heap[D]? = some (.deferred (some [])) := by rw [← hD]; exact World.alloc_heap_new w _
    exact (Below.heap_alloc _ _ _ (by rw [World.size_alloc, hD]; omega)).trans h1
  -- what the iterator is told to keep, and what holds where a round has stopped it
  let J : List α → World → Prop := fun pre W => I pre W ∧ W.heap[D + 1]? = some (R .ready none) ∧ W.heap[D]? = some (.deferred (some []))
  let Jx : List α → World → Prop := fun pre W => ∃ c, Ix c pre W ∧ W.heap[D + 1]? = some (R .done (some c)) ∧ W.heap[D]? = some (.deferred (some []))
  have hit := hseq (n - 1) (D + 1) J Jx W1
    (fun pre W W' h hm => ⟨hIm _ _ _ h.1 hm, (hMv _ _ hm).same _ _ h.2.1 rfl, (hMv _ _ hm).same _ _ h.2.2 rfl⟩) (fun pre W h => hIr _ _ h.1)
  refine ⟨D + 1, [{ target := .collected D, args := #[] }], W1, { target := .fn (.func gf) lb, args := #[.func (.yield (D + 1)) #[] #[]] }, W1, gf, #[.func (.yield (D + 1)) #[] #[]] ++ lb, W1, ?_, ?_, fun _ _ => trivial, ?_, (fun h => nomatch h), ?_⟩
  · have := run_enterLoop_outer (P := P) (w := w) fn a.tmps ps assign body
    rw [hD] at this
    exact this
  · simp only [resolve, hg]
    simp [go_sem]
  · simp [invoke, go_sem, eg]
  refine (hit ?_ ⟨h0 _ _, hL, hK⟩ (hin _ _)).mono ?_
  · -- a round
    rintro pre x W ⟨hi, hl, hk⟩ hlt
    have hsz : D + 1 < W.heap.size := (Array.getElem?_eq_some_iff.1 hl).1
    refine ⟨fn, _, assign, body, run_yield hl (hps x), roundIn_of_wpIn hfn (hassign _ x W _ ⟨_, run_beginRound hl rfl, ?_⟩)⟩
    have hl2 : (W.putObj (D + 1) (R .busy none)).heap[D + 1]? = some (R .busy none) := World.putObj_heap_same hsz
    have hk2 : (W.putObj (D + 1) (R .busy none)).heap[D]? = some (.deferred (some [])) := (World.putObj_heap_other (by omega)).trans hk
    refine wpIn_mono (hbody _ pre x _ (hIp _ _ _ _ (by omega) ⟨_, hl, rfl⟩ hi) hlt) ?_
    -- the record behind the round, whatever the jump
    have after : ∀ (jump : Option Code) (W3 : World), KeepsOthers (W.putObj (D + 1) (R .busy none)) W3 →
        (Instr.endRound (D + 1) jump).run P W3 = .ok (.bool jump.isNone) (W3.putObj (D + 1) (R (if jump.isNone then .ready else .done) jump)) ∧
        (W3.putObj (D + 1) (R (if jump.isNone then .ready else .done) jump)).heap[D + 1]? = some (R (if jump.isNone then .ready else .done) jump) ∧
        (W3.putObj (D + 1) (R (if jump.isNone then .ready else .done) jump)).heap[D]? = some (.deferred (some [])) := fun jump W3 hk3 =>
      ⟨run_endRound jump (hk3.same _ _ hl2 rfl), World.putObj_heap_same (Array.getElem?_eq_some_iff.1 (hk3.same _ _ hl2 rfl)).1, (World.putObj_heap_other (by omega)).trans (hk3.same _ _ hk2 rfl)⟩
    rintro e a3 W3 hp
    have stops : ∀ c, KeepsOthers (W.putObj (D + 1) (R .busy none)) W3 → Ix c (pre ++ [x]) W3 → ∃ v w', (Instr.endRound (D + 1) (some c)).run P W3 = .ok v w' ∧ ((Ending.returned v = .returned (.bool true) ∧ J (pre ++ [x]) w') ∨ (Ending.returned v = .returned (.bool false) ∧ Jx (pre ++ [x]) w')) := by
      intro c hk3 hx
      obtain ⟨e1, e2, e3⟩ := after (some c) W3 hk3
      exact ⟨_, _, e1, .inr ⟨rfl, c, hIxp _ _ _ _ _ (by omega) ⟨_, hk3.same _ _ hl2 rfl, rfl⟩ hx, e2, e3⟩⟩
    cases e with
    | normal =>
      obtain ⟨hk3, hi3⟩ := hp
      obtain ⟨e1, e2, e3⟩ := after none W3 hk3
      exact ⟨_, _, e1, .inl ⟨rfl, hIp _ _ _ _ (by omega) ⟨_, hk3.same _ _ hl2 rfl, rfl⟩ hi3, e2, e3⟩⟩
    | ret => exact stops _ hp.1 hp.2
    | exit id => exact stops _ hp.1 hp.2
    | goto t => exact stops _ hp.1 hp.2
    | panic ch => exact hp.elim
    | outgrown => exact hp.elim
  · -- behind the iterator
    rintro e W2 ⟨⟨v, rfl⟩, (⟨xs, hS, hi, hl, hk⟩ | ⟨pre, hSp, c, hi, hl, hk⟩)⟩
    · exact ⟨none, _, run_endLoop hl (by simp), hdone _ xs _ (Nat.le_refl _) hS (hIp _ _ _ _ (by omega) ⟨_, hl, rfl⟩ hi) ((World.putObj_heap_other (by omega)).trans hk)⟩
    · exact ⟨some c, _, run_endLoop hl (by simp), hstop _ c pre _ (Nat.le_refl _) hSp (hIxp _ _ _ _ _ (by omega) ⟨_, hl, rfl⟩ hi) ((World.putObj_heap_other (by omega)).trans hk)⟩
end Go.Proofs.YtfeciafdioepiaaGreatDoor
