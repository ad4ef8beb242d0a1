-- PRINTED by print.py (a twelfth state) out of the translation. Not trusted: Lean checks it.
import Derived.Test.YtfeciafdioepiaaPE3
import Derived.Test.YtfeciafdioepiaaPAc
import Derived.Test.YtfeciafdioepiaaPAd
import Derived.Test.YtfeciafdioepiaaPA6
import Derived.Test.YtfeciafdioepiaaPB3
import Derived.Test.YtfeciafdioepiaaProg
import Derived.Below
import Derived.Deep.Draws
import Derived.Deep.AppendLies
import Derived.Maps.AppendAt
import Derived.OwnWalk
import Derived.Laws.BytesArg
import Derived.Laws.MakeOwn
import Derived.Laws.OwnMore
import Derived.Deep.OwnRows
import Derived.Tactics
import Derived.Lib.ConvBytes
import Derived.Laws.Slices
import Derived.WalkKit
import Derived.KernelRfl
import Derived.RowKit3
import Derived.Deep.LoopGhost
import Derived.Deep.QuietTactic
import Derived.BigQuiet
import Derived.WideLaws
import Derived.Deep.DeepCutAuto
import Derived.Deep.CutBlock
import Derived.Deep.RegionHeld3
import Derived.Laws.Rows
import Derived.Lib.AppendStr
import Derived.ArgAppend
import Derived.Laws.IdiomCopy
import Derived.OrdersHeld
import Derived.Laws.BitsLemmas
import Derived.RowKit
import Derived.Test.YtfeciafdioepiaaH18
import Derived.Test.YtfeciafdioepiaaWWords
import Derived.Test.YtfeciafdioepiaaWLast
import Derived.Test.YtfeciafdioepiaaWTab
import Derived.Test.YtfeciafdioepiaaWFour
import Derived.Test.YtfeciafdioepiaaWQPut
import Derived.Test.YtfeciafdioepiaaWApart
import Derived.Test.YtfeciafdioepiaaWArr
import Derived.Test.YtfeciafdioepiaaWZeros
import Derived.Test.YtfeciafdioepiaaWFoot
import Derived.Test.YtfeciafdioepiaaWKept
import Derived.Test.YtfeciafdioepiaaWShare
import Derived.Test.YtfeciafdioepiaaWN
import Derived.Test.YtfeciafdioepiaaWFootNe
import Derived.Test.YtfeciafdioepiaaWAt
import Derived.Test.YtfeciafdioepiaaWEqStruct
import Derived.Test.YtfeciafdioepiaaWRepsOne
import Derived.Test.YtfeciafdioepiaaWInv
import Derived.Test.YtfeciafdioepiaaWInvWords
import Derived.Test.YtfeciafdioepiaaWGuard
import Derived.Test.YtfeciafdioepiaaWNEv
import Derived.Test.YtfeciafdioepiaaWMore
import Derived.Test.YtfeciafdioepiaaPE1
namespace Go.Proofs.Ytfeciafdioepiaa.PE
open Go.Proofs.Ytfeciafdioepiaa.PA
open Go.Proofs.Ytfeciafdioepiaa
open Go.RowKit Go.Proofs.YtfeciafdioepiaaW.PrintWords Go.Proofs.YtfeciafdioepiaaW.PrintLast Go.Proofs.YtfeciafdioepiaaW.PrintMore
attribute [local go_sem] max2_int min2_int max_two min_two max_three min_three max_four min_four   -- for this text's walks alone
set_option linter.unusedVariables false
set_option linter.unusedSimpArgs false

set_option maxHeartbeats 8000000 in
set_option maxRecDepth 100000 in
theorem bulletinlaw09_FieldWith.calls (k : Nat) (A0 : Option Addr) (c0 : Nat) (l0 : List (S25)) (a1_0 : ByteArray) (a1_1 : ByteArray) (r : Bool) (w : World) (hgm : Gm w) (hr0 : Kd.C k25 w A0 l0.length l0) (hc0 : l0.length ≤ c0) (h : bulletinlaw09_FieldWith.f k l0 a1_0 a1_1 = some r) :
  Calls Try.prog 9 #[.slice A0 l0.length c0, .agg #[.string a1_0, .string a1_1]] w fun e w' => e = .returned (.bool r) ∧ Below w.heap.size w w' := by
 have hu25 := Try.underlying25
 have hu28 := Try.underlying28
 have HGM := as0 hgm
 clear hgm
 have HR0 := as0 hr0
 have HC0 := as0 hc0
 clear hr0 hc0
 have HB := as0 (Below.refl w.heap.size w)
 have H : ((PA.bulletinlaw09_cut.f k l0).bind fun t112 => ((PA.bulletinlaw09_cut.f k (([(⟨a1_0, a1_1⟩ : S25)] : List (S25)))).bind fun t118 => (if 0 < (t118.length : Int) then ((PA.bulletinlaw09_To.f k t112).bind fun t122 => ((PB.bulletinref09_Without.f k t112 ((rd_T25 t118 0).f0)).bind fun t125 => ((GV.Without.f t122 ((rd_T25 t118 0).f0)).bind fun t128 => ((field_With.f t122 ((rd_T25 t118 0).f0) ((rd_T25 t118 0).f1)).bind fun t131 => ((PA.bulletinlaw09_Of.f k t128).bind fun t134 => ((PA.bulletinref09_Same.f k t134 t125).bind fun t137 => (if t137 = true then ((PA.bulletinlaw09_Of.f k t131).bind fun t138 => ((some (([] : List (S25)) : List (S25))).bind fun y141 => (if y141.length + t125.length < 4398046511104 then ((some (y141 ++ t125 : List (S25))).bind fun y144 => ((some (([(⟨(rd_T25 t118 0).f0, (rd_T25 t118 0).f1⟩ : S25)] : List (S25)) : List (S25))).bind fun y147 => (if y144.length + y147.length < 4398046511104 then ((PA.bulletinref09_Same.f k t138 (y144 ++ y147)).bind fun t153 => (bulletinlaw09_FieldWith.j0 k t112 t122 t128 t131 (!t153))) else (none)))) else (none)))) else (bulletinlaw09_FieldWith.j0 k t112 t122 t128 t131 true)))))))) else (none)))) = some r := h
 clear h
 replace H := Option.bind_eq_some_iff.mp H
 obtain ⟨t112, A30, H⟩ := H
 replace H : ((PA.bulletinlaw09_cut.f k (([(⟨a1_0, a1_1⟩ : S25)] : List (S25)))).bind fun t118 => (if 0 < (t118.length : Int) then ((PA.bulletinlaw09_To.f k t112).bind fun t122 => ((PB.bulletinref09_Without.f k t112 ((rd_T25 t118 0).f0)).bind fun t125 => ((GV.Without.f t122 ((rd_T25 t118 0).f0)).bind fun t128 => ((field_With.f t122 ((rd_T25 t118 0).f0) ((rd_T25 t118 0).f1)).bind fun t131 => ((PA.bulletinlaw09_Of.f k t128).bind fun t134 => ((PA.bulletinref09_Same.f k t134 t125).bind fun t137 => (if t137 = true then ((PA.bulletinlaw09_Of.f k t131).bind fun t138 => ((some (([] : List (S25)) : List (S25))).bind fun y141 => (if y141.length + t125.length < 4398046511104 then ((some (y141 ++ t125 : List (S25))).bind fun y144 => ((some (([(⟨(rd_T25 t118 0).f0, (rd_T25 t118 0).f1⟩ : S25)] : List (S25)) : List (S25))).bind fun y147 => (if y144.length + y147.length < 4398046511104 then ((PA.bulletinref09_Same.f k t138 (y144 ++ y147)).bind fun t153 => (bulletinlaw09_FieldWith.j0 k t112 t122 t128 t131 (!t153))) else (none)))) else (none)))) else (bulletinlaw09_FieldWith.j0 k t112 t122 t128 t131 true)))))))) else (none))) = some r := H
 have A3 := as0 A30
 clear A30
 obtain ⟨y115, hy115⟩ : ∃ y_ : List (S25), y_ = (([(⟨a1_0, a1_1⟩ : S25)] : List (S25))) := ⟨_, rfl⟩
 replace H : ((PA.bulletinlaw09_cut.f k y115).bind fun t118 => (if 0 < (t118.length : Int) then ((PA.bulletinlaw09_To.f k t112).bind fun t122 => ((PB.bulletinref09_Without.f k t112 ((rd_T25 t118 0).f0)).bind fun t125 => ((GV.Without.f t122 ((rd_T25 t118 0).f0)).bind fun t128 => ((field_With.f t122 ((rd_T25 t118 0).f0) ((rd_T25 t118 0).f1)).bind fun t131 => ((PA.bulletinlaw09_Of.f k t128).bind fun t134 => ((PA.bulletinref09_Same.f k t134 t125).bind fun t137 => (if t137 = true then ((PA.bulletinlaw09_Of.f k t131).bind fun t138 => ((some (([] : List (S25)) : List (S25))).bind fun y141 => (if y141.length + t125.length < 4398046511104 then ((some (y141 ++ t125 : List (S25))).bind fun y144 => ((some (([(⟨(rd_T25 t118 0).f0, (rd_T25 t118 0).f1⟩ : S25)] : List (S25)) : List (S25))).bind fun y147 => (if y144.length + y147.length < 4398046511104 then ((PA.bulletinref09_Same.f k t138 (y144 ++ y147)).bind fun t153 => (bulletinlaw09_FieldWith.j0 k t112 t122 t128 t131 (!t153))) else (none)))) else (none)))) else (bulletinlaw09_FieldWith.j0 k t112 t122 t128 t131 true)))))))) else (none))) = some r := by first | (rw [hy115]; with_reducible exact H) | (have H2_ := (Option.bind_some _ _).symm.trans H; rw [hy115]; with_reducible exact H2_) | (have H2_ := (Option.bind_some _ _).symm.trans H; with_reducible exact H2_) | with_reducible exact H | (rw [hy115]; exact H) | exact H
 have Ny115 := as0 hy115
 clear hy115
 replace H := Option.bind_eq_some_iff.mp H
 obtain ⟨t118, A40, H⟩ := H
 replace H : (if 0 < (t118.length : Int) then ((PA.bulletinlaw09_To.f k t112).bind fun t122 => ((PB.bulletinref09_Without.f k t112 ((rd_T25 t118 0).f0)).bind fun t125 => ((GV.Without.f t122 ((rd_T25 t118 0).f0)).bind fun t128 => ((field_With.f t122 ((rd_T25 t118 0).f0) ((rd_T25 t118 0).f1)).bind fun t131 => ((PA.bulletinlaw09_Of.f k t128).bind fun t134 => ((PA.bulletinref09_Same.f k t134 t125).bind fun t137 => (if t137 = true then ((PA.bulletinlaw09_Of.f k t131).bind fun t138 => ((some (([] : List (S25)) : List (S25))).bind fun y141 => (if y141.length + t125.length < 4398046511104 then ((some (y141 ++ t125 : List (S25))).bind fun y144 => ((some (([(⟨(rd_T25 t118 0).f0, (rd_T25 t118 0).f1⟩ : S25)] : List (S25)) : List (S25))).bind fun y147 => (if y144.length + y147.length < 4398046511104 then ((PA.bulletinref09_Same.f k t138 (y144 ++ y147)).bind fun t153 => (bulletinlaw09_FieldWith.j0 k t112 t122 t128 t131 (!t153))) else (none)))) else (none)))) else (bulletinlaw09_FieldWith.j0 k t112 t122 t128 t131 true)))))))) else (none)) = some r := H
 have A4 := as0 A40
 clear A40
 by_cases c5 : 0 < (t118.length : Int)
 ·rw [if_pos c5] at H
  have c5b0 : decide (0 < (t118.length : Int)) = true := decide_eq_true c5
  have c5b1 : decide (0 < t118.length) = true := decide_eq_true (by omega)
  clear c5
  replace H := Option.bind_eq_some_iff.mp H
  obtain ⟨t122, A60, H⟩ := H
  replace H : ((PB.bulletinref09_Without.f k t112 ((rd_T25 t118 0).f0)).bind fun t125 => ((GV.Without.f t122 ((rd_T25 t118 0).f0)).bind fun t128 => ((field_With.f t122 ((rd_T25 t118 0).f0) ((rd_T25 t118 0).f1)).bind fun t131 => ((PA.bulletinlaw09_Of.f k t128).bind fun t134 => ((PA.bulletinref09_Same.f k t134 t125).bind fun t137 => (if t137 = true then ((PA.bulletinlaw09_Of.f k t131).bind fun t138 => ((some (([] : List (S25)) : List (S25))).bind fun y141 => (if y141.length + t125.length < 4398046511104 then ((some (y141 ++ t125 : List (S25))).bind fun y144 => ((some (([(⟨(rd_T25 t118 0).f0, (rd_T25 t118 0).f1⟩ : S25)] : List (S25)) : List (S25))).bind fun y147 => (if y144.length + y147.length < 4398046511104 then ((PA.bulletinref09_Same.f k t138 (y144 ++ y147)).bind fun t153 => (bulletinlaw09_FieldWith.j0 k t112 t122 t128 t131 (!t153))) else (none)))) else (none)))) else (bulletinlaw09_FieldWith.j0 k t112 t122 t128 t131 true))))))) = some r := H
  have A6 := as0 A60
  clear A60
  replace H := Option.bind_eq_some_iff.mp H
  obtain ⟨t125, A70, H⟩ := H
  replace H : ((GV.Without.f t122 ((rd_T25 t118 0).f0)).bind fun t128 => ((field_With.f t122 ((rd_T25 t118 0).f0) ((rd_T25 t118 0).f1)).bind fun t131 => ((PA.bulletinlaw09_Of.f k t128).bind fun t134 => ((PA.bulletinref09_Same.f k t134 t125).bind fun t137 => (if t137 = true then ((PA.bulletinlaw09_Of.f k t131).bind fun t138 => ((some (([] : List (S25)) : List (S25))).bind fun y141 => (if y141.length + t125.length < 4398046511104 then ((some (y141 ++ t125 : List (S25))).bind fun y144 => ((some (([(⟨(rd_T25 t118 0).f0, (rd_T25 t118 0).f1⟩ : S25)] : List (S25)) : List (S25))).bind fun y147 => (if y144.length + y147.length < 4398046511104 then ((PA.bulletinref09_Same.f k t138 (y144 ++ y147)).bind fun t153 => (bulletinlaw09_FieldWith.j0 k t112 t122 t128 t131 (!t153))) else (none)))) else (none)))) else (bulletinlaw09_FieldWith.j0 k t112 t122 t128 t131 true)))))) = some r := H
  have A7 := as0 A70
  clear A70
  replace H := Option.bind_eq_some_iff.mp H
  obtain ⟨t128, A80, H⟩ := H
  replace H : ((field_With.f t122 ((rd_T25 t118 0).f0) ((rd_T25 t118 0).f1)).bind fun t131 => ((PA.bulletinlaw09_Of.f k t128).bind fun t134 => ((PA.bulletinref09_Same.f k t134 t125).bind fun t137 => (if t137 = true then ((PA.bulletinlaw09_Of.f k t131).bind fun t138 => ((some (([] : List (S25)) : List (S25))).bind fun y141 => (if y141.length + t125.length < 4398046511104 then ((some (y141 ++ t125 : List (S25))).bind fun y144 => ((some (([(⟨(rd_T25 t118 0).f0, (rd_T25 t118 0).f1⟩ : S25)] : List (S25)) : List (S25))).bind fun y147 => (if y144.length + y147.length < 4398046511104 then ((PA.bulletinref09_Same.f k t138 (y144 ++ y147)).bind fun t153 => (bulletinlaw09_FieldWith.j0 k t112 t122 t128 t131 (!t153))) else (none)))) else (none)))) else (bulletinlaw09_FieldWith.j0 k t112 t122 t128 t131 true))))) = some r := H
  have A8 := as0 A80
  clear A80
  replace H := Option.bind_eq_some_iff.mp H
  obtain ⟨t131, A90, H⟩ := H
  replace H : ((PA.bulletinlaw09_Of.f k t128).bind fun t134 => ((PA.bulletinref09_Same.f k t134 t125).bind fun t137 => (if t137 = true then ((PA.bulletinlaw09_Of.f k t131).bind fun t138 => ((some (([] : List (S25)) : List (S25))).bind fun y141 => (if y141.length + t125.length < 4398046511104 then ((some (y141 ++ t125 : List (S25))).bind fun y144 => ((some (([(⟨(rd_T25 t118 0).f0, (rd_T25 t118 0).f1⟩ : S25)] : List (S25)) : List (S25))).bind fun y147 => (if y144.length + y147.length < 4398046511104 then ((PA.bulletinref09_Same.f k t138 (y144 ++ y147)).bind fun t153 => (bulletinlaw09_FieldWith.j0 k t112 t122 t128 t131 (!t153))) else (none)))) else (none)))) else (bulletinlaw09_FieldWith.j0 k t112 t122 t128 t131 true)))) = some r := H
  have A9 := as0 A90
  clear A90
  have HC10 := as0 H
  clear H
  go_enter Try.func9, Try.ntmps9
  try go_wp2_with (first | ((with_reducible refine gate_dst (N := 3) rfl ?_); (try (refine gate_guard (by rfl) ?_; dsimp only)); refine box_event ?hg (N := 3) ?hd (cs := #[.string a1_0, .string a1_1]) (t := 25) ?hr ?_; (case hd => rfl); (case hg => rfl); (case hr => first | (go_simp; done) | (go_simp; rfl)); intro gb111 hg w11 hbox hb; have n0_ := as0 (below_step (by repeat (first | (with_reducible first | exact HB.out | apply below_alloc | apply pw_below_drewN | apply below_drew1) | exact HB.out)) hb); have n1_ := as0 (hbox); have n2_ := as0 ((by rw [hg]; exact (below_size (by repeat (first | (with_reducible first | exact HB.out | apply below_alloc | apply pw_below_drewN | apply below_drew1) | exact HB.out))) : w.heap.size ≤ gb111)); have n3_ := as0 ((by rw [hg]; exact (below_size (by repeat (first | (with_reducible first | exact HB.out | apply below_alloc | apply pw_below_drewN | apply below_drew1) | exact HB.out))) : w.heap.size ≤ gb111)); clear HB; have HB := n0_; have BK111 := n1_; have GW111 := n2_; have GE111 := n3_; clear n0_ n1_ n2_ n3_; clear hb hbox hg))
  have n0_ := as0 (blk_drew BK111.out)
  have n1_ := as0 (below_drew1 HB.out)
  clear BK111
  clear HB
  have BK111 := n0_
  have HB := n1_
  clear n0_ n1_
  refine start_ (n := 9) (S := fun w' => w'.cell? ⟨gb111, 0, none⟩ = some (.string a1_0) ∧ w'.cell? ⟨gb111, 1, none⟩ = some (.string a1_1)) (ds := [8]) #[false, false, false, false, false, false, false, false, false] (by kernel_rfl) rfl rfl ⟨(blk_cell BK111.out 0).trans rfl, (blk_cell BK111.out 1).trans rfl⟩ (fun hHeld => ?_); refine with_tabW bulletinlaw09_FieldWith.tab1 bulletinlaw09_FieldWith.bits1 (fun HT_ HW_ => ?_)
  generalize w11.drew = w12 at BK111 HB hHeld ⊢
  refine pure_ (i := 0) (N := some 11) (v := ?_) (a' := ?_) #[true, false, false, false, false, false, false, false, false] rfl rfl (any_of HT_.out (by kernel_rfl)) (fun _ _ _ h => h) (Or.inl ⟨by rfl, ?_⟩) ?_ ?_
  rotate_left
  ·intro w'
   go_simp
   with_reducible rfl
  rotate_left
  ·simp only [Act.put, List.setIfInBounds_toArray, List.set_cons_zero, List.set_cons_succ, i64_w, i32_w]
   rfl
  refine take_ (i := 2) (N := some 13) (v := ?_) (a' := ?_) #[true, false, true, false, false, false, false, false, false] rfl rfl (take_ofW HT_.out HW_.out (by kernel_rfl)) (fun _ _ _ h => h) (Or.inl ⟨by rfl, ?_⟩) hHeld ?_ ?_
  rotate_left
  ·rintro w' ⟨s0, s1⟩
   go_simp
   with_reducible rfl
  rotate_left
  ·simp only [Act.put, List.setIfInBounds_toArray, List.set_cons_zero, List.set_cons_succ, i64_w, i32_w]
   rfl
  refine join_ (σ := Value × Value) 5 #[true, true, true, true, false, false, false, false, false] (fun s_ => [(12, s_.1), (14, s_.2)]) (fun s_ w' => (w'.cell? ⟨gb111, 0, none⟩ = some (.string a1_0) ∧ w'.cell? ⟨gb111, 1, none⟩ = some (.string a1_1)) ∧ (Kd.R k25 25 w' w.heap.size (fun k_ => some k_ ≠ (s_.2 : Value).ownBlock ∧ k_ ≠ gb111) s_.1 t112) ∧ (Kd.R k25 25 w' w.heap.size (fun k_ => some k_ ≠ (s_.1 : Value).ownBlock ∧ k_ ≠ gb111) s_.2 y115) ∧ (w'.heap[gb111]? = some (.cells #[.string a1_0, .string a1_1] 25 (0, 0))) ∧ (Below w.heap.size w w')) ?_ ?_
  rotate_left
  ·intro hCont
   refine two_ (i := 1) (j := 3) (Ni := some 12) (Nj := some 14) #[true, true, true, false, false, false, false, false, false] #[true, false, true, true, false, false, false, false, false] rfl rfl rfl rfl (two_of HT_.out (by kernel_rfl)) (by decide) (by decide) (fun K hK => ?_) (fun K hK => ?_)
   ·skip
    refine goes_ Try.func14 (by kernel_rfl) rfl #[.slice A0 l0.length c0] (by rfl) rfl rfl (by (try simp only [List.map_toArray, List.map_cons, List.map_nil]); first | done | rfl | (simp only [List.length_drop, List.length_take]; rfl)) ?_
    with_reducible refine (PA.bulletinlaw09_cut.calls k _ _ l0 t112 _ ?side1 ?side2 A3.out).mono ?_
    (case side1 => repeat (first | exact (Kd.C_below HR0.out HB.out) | (with_reducible refine Kd.C_alloc ?_ _) | (with_reducible refine Kd.C_drewN ?_ _) | (with_reducible refine Kd.C_drew ?_)))
    (case side2 => exact HC0.out)
    rintro e w13 ⟨v113, rfl, ho0, hb⟩
    refine ⟨_, rfl, ?_⟩
    have n0_ := as0 (Kd.R_lower (Kd.R_newB ho0 (g := gb111) (o := .cells #[.string a1_0, .string a1_1] 25 (0, 0)) BK111.out) (below_size HB.out))
    have n1_ := as0 (blk_below (g := gb111) (o := .cells #[.string a1_0, .string a1_1] 25 (0, 0)) BK111.out hb)
    have n2_ := as0 (below_step HB.out hb)
    clear BK111
    clear HB
    have HO114 := n0_
    have BK111 := n1_
    have HB := n2_
    clear n0_ n1_ n2_
    refine hK.out _ _ ⟨(blk_cell BK111.out 0).trans rfl, (blk_cell BK111.out 1).trans rfl⟩ (fun hHeld => ?_)
    clear hK K
    refine norm_ (a' := ?_) ?_ ?_
    rotate_left
    ·show Act.put _ (some 12) _ = _
     simp only [Act.put, List.setIfInBounds_toArray, List.set_cons_zero, List.set_cons_succ, i64_w, i32_w]
     rfl
    refine one_ (i := 3) (N := some 14) #[true, true, true, true, false, false, false, false, false] rfl rfl (one_of HT_.out (by kernel_rfl)) (by decide) (fun K hK => ?_)
    refine Kd.R_lit_step k25 _ 25 ?hg (N := 14) ?hd (xs := ([(⟨a1_0, a1_1⟩ : S25)] : List (S25))) (inner := [.string a1_0, .string a1_1]) (ok := fun _ => True) (okp := fun _ => True) ?hr ?hp (fun _ hk => hk) trivial (Below.refl _ _) (Nat.le_refl _) (by simp) ?_; (case hd => rfl); (case hg => rfl); (case hr => first | (go_simp; done) | (go_simp; rfl)); (case hp => exact (Reps.c2 (show Kd.M k25 _ _ _ (⟨a1_0, a1_1⟩ : S25) [.string a1_0, .string a1_1] from (k25_mkM _ _ _ (⟨a1_0, a1_1⟩ : S25) )) (Reps.none _ _)))
    intro v116 w14 ho15 hb hg_ hnew_
    clear hg_ hnew_
    (first | rw [← Ny115.out] at ho15 | (simp only [Int.reduceToNat] at ho15; rw [← Ny115.out] at ho15))
    have n0_ := as0 (Kd.R_elder' HO114.out (Kd.R_base ho15) hb)
    have n1_ := as0 (Kd.R_lower (Kd.R_newB (Kd.R_new' ho15 (Kd.R_lt HO114.out)) (g := gb111) (o := .cells #[.string a1_0, .string a1_1] 25 (0, 0)) BK111.out) (below_size HB.out))
    have n2_ := as0 (blk_below (g := gb111) (o := .cells #[.string a1_0, .string a1_1] 25 (0, 0)) BK111.out hb)
    have n3_ := as0 (below_step HB.out hb)
    clear HO114
    clear BK111
    clear HB
    have HO114 := n0_
    have HO117 := n1_
    have BK111 := n2_
    have HB := n3_
    clear n0_ n1_ n2_ n3_
    clear hb ho15
    refine hK.out _ _ ⟨(blk_cell BK111.out 0).trans rfl, (blk_cell BK111.out 1).trans rfl⟩ (fun hHeld => ?_)
    clear hK K
    refine norm_ (a' := ?_) ?_ ?_
    rotate_left
    ·show Act.put _ (some 14) _ = _
     simp only [Act.put, List.setIfInBounds_toArray, List.set_cons_zero, List.set_cons_succ, i64_w, i32_w]
     rfl
    exact norm_ (by simp only [putAll, Act.put, List.setIfInBounds_toArray, List.set_cons_zero, List.set_cons_succ]) (hCont (v113, v116) _ ⟨hHeld, (by (with_reducible repeat (first | apply Kd.R_alloc | apply Kd.R_drewN | apply Kd.R_drew)); exact Kd.R_mono HO114.out (fun _ hk => ⟨hk.2, hk.1.2⟩)), (by (with_reducible repeat (first | apply Kd.R_alloc | apply Kd.R_drewN | apply Kd.R_drew)); exact Kd.R_mono HO117.out (fun _ hk => ⟨hk.1.2, hk.2⟩)), BK111.out, HB.out⟩)
   ·skip
    refine Kd.R_lit_step k25 _ 25 ?hg (N := 14) ?hd (xs := ([(⟨a1_0, a1_1⟩ : S25)] : List (S25))) (inner := [.string a1_0, .string a1_1]) (ok := fun _ => True) (okp := fun _ => True) ?hr ?hp (fun _ hk => hk) trivial (Below.refl _ _) (Nat.le_refl _) (by simp) ?_; (case hd => rfl); (case hg => rfl); (case hr => first | (go_simp; done) | (go_simp; rfl)); (case hp => exact (Reps.c2 (show Kd.M k25 _ _ _ (⟨a1_0, a1_1⟩ : S25) [.string a1_0, .string a1_1] from (k25_mkM _ _ _ (⟨a1_0, a1_1⟩ : S25) )) (Reps.none _ _)))
    intro v116 w13 ho14 hb hg_ hnew_
    clear hg_ hnew_
    (first | rw [← Ny115.out] at ho14 | (simp only [Int.reduceToNat] at ho14; rw [← Ny115.out] at ho14))
    have n0_ := as0 (Kd.R_lower (Kd.R_newB ho14 (g := gb111) (o := .cells #[.string a1_0, .string a1_1] 25 (0, 0)) BK111.out) (below_size HB.out))
    have n1_ := as0 (blk_below (g := gb111) (o := .cells #[.string a1_0, .string a1_1] 25 (0, 0)) BK111.out hb)
    have n2_ := as0 (below_step HB.out hb)
    clear BK111
    clear HB
    have HO117 := n0_
    have BK111 := n1_
    have HB := n2_
    clear n0_ n1_ n2_
    clear hb ho14
    refine hK.out _ _ ⟨(blk_cell BK111.out 0).trans rfl, (blk_cell BK111.out 1).trans rfl⟩ (fun hHeld => ?_)
    clear hK K
    refine norm_ (a' := ?_) ?_ ?_
    rotate_left
    ·show Act.put _ (some 14) _ = _
     simp only [Act.put, List.setIfInBounds_toArray, List.set_cons_zero, List.set_cons_succ, i64_w, i32_w]
     rfl
    refine one_ (i := 1) (N := some 12) #[true, true, true, true, false, false, false, false, false] rfl rfl (one_of HT_.out (by kernel_rfl)) (by decide) (fun K hK => ?_)
    refine goes_ Try.func14 (by kernel_rfl) rfl #[.slice A0 l0.length c0] (by rfl) rfl rfl (by (try simp only [List.map_toArray, List.map_cons, List.map_nil]); first | done | rfl | (simp only [List.length_drop, List.length_take]; rfl)) ?_
    with_reducible refine (PA.bulletinlaw09_cut.calls k _ _ l0 t112 _ ?side1 ?side2 A3.out).mono ?_
    (case side1 => repeat (first | exact (Kd.C_below HR0.out HB.out) | (with_reducible refine Kd.C_alloc ?_ _) | (with_reducible refine Kd.C_drewN ?_ _) | (with_reducible refine Kd.C_drew ?_)))
    (case side2 => exact HC0.out)
    rintro e w15 ⟨v113, rfl, ho0, hb⟩
    refine ⟨_, rfl, ?_⟩
    have n0_ := as0 (Kd.R_elder' HO117.out (Kd.R_base ho0) hb)
    have n1_ := as0 (Kd.R_lower (Kd.R_newB (Kd.R_new' ho0 (Kd.R_lt HO117.out)) (g := gb111) (o := .cells #[.string a1_0, .string a1_1] 25 (0, 0)) BK111.out) (below_size HB.out))
    have n2_ := as0 (blk_below (g := gb111) (o := .cells #[.string a1_0, .string a1_1] 25 (0, 0)) BK111.out hb)
    have n3_ := as0 (below_step HB.out hb)
    clear HO117
    clear BK111
    clear HB
    have HO117 := n0_
    have HO114 := n1_
    have BK111 := n2_
    have HB := n3_
    clear n0_ n1_ n2_ n3_
    refine hK.out _ _ ⟨(blk_cell BK111.out 0).trans rfl, (blk_cell BK111.out 1).trans rfl⟩ (fun hHeld => ?_)
    clear hK K
    refine norm_ (a' := ?_) ?_ ?_
    rotate_left
    ·show Act.put _ (some 12) _ = _
     simp only [Act.put, List.setIfInBounds_toArray, List.set_cons_zero, List.set_cons_succ, i64_w, i32_w]
     rfl
    exact norm_ (by simp only [putAll, Act.put, List.setIfInBounds_toArray, List.set_cons_zero, List.set_cons_succ]) (hCont (v113, v116) _ ⟨hHeld, (by (with_reducible repeat (first | apply Kd.R_alloc | apply Kd.R_drewN | apply Kd.R_drew)); exact Kd.R_mono HO114.out (fun _ hk => ⟨hk.1.2, hk.2⟩)), (by (with_reducible repeat (first | apply Kd.R_alloc | apply Kd.R_drewN | apply Kd.R_drew)); exact Kd.R_mono HO117.out (fun _ hk => ⟨hk.2, hk.1.2⟩)), BK111.out, HB.out⟩)
  rintro ⟨v113, v116⟩ w16 ⟨hS_, h0_, h1_, h2_, h3_⟩
  have n0_ : Aside0 (Kd.R k25 25 w16 w.heap.size (fun k_ => some k_ ≠ (v116 : Value).ownBlock ∧ k_ ≠ gb111) v113 t112) := ⟨h0_⟩
  have n1_ : Aside0 (Kd.R k25 25 w16 w.heap.size (fun k_ => some k_ ≠ (v113 : Value).ownBlock ∧ k_ ≠ gb111) v116 y115) := ⟨h1_⟩
  have n2_ : Aside0 (w16.heap[gb111]? = some (.cells #[.string a1_0, .string a1_1] 25 (0, 0))) := ⟨h2_⟩
  have n3_ : Aside0 (Below w.heap.size w w16) := ⟨h3_⟩
  clear BK111
  clear HB
  clear h0_ h1_ h2_ h3_
  have HO114 := n0_
  have HO117 := n1_
  have BK111 := n2_
  have HB := n3_
  clear n0_ n1_ n2_ n3_
  have hHeld : w16.cell? ⟨gb111, 0, none⟩ = some (.string a1_0) ∧ w16.cell? ⟨gb111, 1, none⟩ = some (.string a1_1) := hS_
  obtain ⟨Ao17, co17, eo17⟩ := Kd.R_slice HO117.out
  (first | subst eo17 | (injection eo17 with f1_ f2_ f3_; have f4_ := f1_.symm; have f5_ := f3_.symm; clear f1_ f2_ f3_; subst f4_; subst f5_))
  refine norm_ (a' := ?_) ?_ ?_
  rotate_left
  ·simp only [putAll, Act.put, List.setIfInBounds_toArray, List.set_cons_zero, List.set_cons_succ]
   rfl
  refine one_ (i := 4) (N := some 15) #[true, true, true, true, true, false, false, false, false] rfl rfl (one_of HT_.out (by kernel_rfl)) (by decide) (fun K hK => ?_)
  refine goes_ Try.func14 (by kernel_rfl) rfl #[.slice Ao17 y115.length co17] (by rfl) rfl rfl (by (try simp only [List.map_toArray, List.map_cons, List.map_nil]); first | done | rfl | (simp only [List.length_drop, List.length_take]; rfl)) ?_
  with_reducible refine (PA.bulletinlaw09_cut.calls k _ _ y115 t118 _ ?side1 ?side2 A4.out).mono ?_
  (case side1 => repeat (first | exact (Kd.R_reads' HO117.out).2.2 | (with_reducible refine Kd.C_alloc ?_ _) | (with_reducible refine Kd.C_drewN ?_ _) | (with_reducible refine Kd.C_drew ?_)))
  (case side2 => exact (Kd.R_reads' HO117.out).2.1)
  rintro e w18 ⟨v119, rfl, ho0, hb⟩
  refine ⟨_, rfl, ?_⟩
  have n0_ := as0 (Kd.R_elder' HO114.out (Kd.R_base ho0) hb)
  have n1_ := as0 (Kd.R_elder' HO117.out (Kd.R_base ho0) hb)
  have n2_ := as0 (Kd.R_lower (Kd.R_newB (Kd.R_new' (Kd.R_new' ho0 (Kd.R_lt HO114.out)) (Kd.R_lt HO117.out)) (g := gb111) (o := .cells #[.string a1_0, .string a1_1] 25 (0, 0)) BK111.out) (below_size HB.out))
  have n3_ := as0 (blk_below (g := gb111) (o := .cells #[.string a1_0, .string a1_1] 25 (0, 0)) BK111.out hb)
  have n4_ := as0 (below_step HB.out hb)
  clear HO114
  clear HO117
  clear BK111
  clear HB
  have HO114 := n0_
  have HO117 := n1_
  have HO120 := n2_
  have BK111 := n3_
  have HB := n4_
  clear n0_ n1_ n2_ n3_ n4_
  obtain ⟨Ao19, co19, eo19⟩ := Kd.R_slice HO120.out
  (first | subst eo19 | (injection eo19 with f1_ f2_ f3_; have f4_ := f1_.symm; have f5_ := f3_.symm; clear f1_ f2_ f3_; subst f4_; subst f5_))
  have p121 : 0 ≤ (0 : Int) := (by omega)
  have q121 : 0 < (t118.length : Int) := of_decide_eq_true (by first | (with_reducible assumption) | assumption)
  obtain ⟨ad121, e121, hx121_0, hx121_1⟩ := at_T25 (Kd.R_reads' HO120.out).2.2 0 p121 q121
  cases e121
  have qi121 : (0 < t118.length) = True := eq_true (by omega)
  (try rw [show ((0 : Int)).toNat = 0 from rfl] at hx121_0)
  (try rw [show 0 * 2 = 0 from rfl] at hx121_0)
  (try rw [Addr.add_zero'] at hx121_0)
  (try rw [show ((0 : Int)).toNat = 0 from rfl] at hx121_1)
  (try rw [show 0 * 2 = 0 from rfl] at hx121_1)
  (try rw [Addr.add_zero'] at hx121_1)
  replace p121 := eq_true p121
  replace q121 := eq_true q121
  refine hK.out _ _ ⟨(blk_cell BK111.out 0).trans rfl, (blk_cell BK111.out 1).trans rfl⟩ (fun hHeld => ?_)
  clear hK K
  refine norm_ (a' := ?_) ?_ ?_
  rotate_left
  ·show Act.put _ (some 15) _ = _
   simp only [Act.put, List.setIfInBounds_toArray, List.set_cons_zero, List.set_cons_succ, i64_w, i32_w]
   rfl
  refine pure_ (i := 5) (N := some 16) (v := ?_) (a' := ?_) #[true, true, true, true, true, true, false, false, false] rfl rfl (any_of HT_.out (by kernel_rfl)) (fun _ _ _ h => h) (Or.inl ⟨by rfl, ?_⟩) ?_ ?_
  rotate_left
  ·intro w'
   go_simp
   with_reducible rfl
  rotate_left
  ·simp only [Act.put, List.setIfInBounds_toArray, List.set_cons_zero, List.set_cons_succ, i64_w, i32_w]
   rfl
  refine pure_ (i := 7) (N := some 0) (v := ?_) (a' := ?_) #[true, true, true, true, true, true, false, true, false] rfl rfl (any_of HT_.out (by kernel_rfl)) (fun _ _ _ h => h) (Or.inl ⟨by rfl, ?_⟩) ?_ ?_
  rotate_left
  ·intro w'
   go_simp
   with_reducible rfl
  rotate_left
  ·simp only [Act.put, List.setIfInBounds_toArray, List.set_cons_zero, List.set_cons_succ, i64_w, i32_w]
   rfl
  refine one_ (i := 6) (N := some 17) #[true, true, true, true, true, true, true, true, false] rfl rfl (one_of HT_.out (by kernel_rfl)) (by decide) (fun K hK => ?_)
  refine value_ (w1 := w18) (v := .agg #[.string ((rd_T25 t118 0).f0), .string ((rd_T25 t118 0).f1)]) (by rfl) rfl ?_ ?_
  ·first | (go_simp; done) | (go_simp; rfl) | (go_simp; exact ⟨rfl, rfl⟩)
  refine hK.out _ _ ⟨(blk_cell BK111.out 0).trans rfl, (blk_cell BK111.out 1).trans rfl⟩ (fun hHeld => ?_)
  clear hK K
  refine norm_ (a' := ?_) ?_ ?_
  rotate_left
  ·simp only [Act.put, List.setIfInBounds_toArray, List.set_cons_zero, List.set_cons_succ, i64_w, i32_w]
   rfl
  refine last_ (i := 8) (N := none) #[true, true, true, true, true, true, true, true, true] rfl rfl (one_of HT_.out (by kernel_rfl)) (by decide) (fun K hK => ?_)
  have hs20 : w18.cell? ⟨gb111, 0, none⟩ = some (.string a1_0) := (blk_cell BK111.out 0).trans rfl
  have hfs20 := blk_frozen BK111.out 0
  have hs21 : w18.cell? ⟨gb111, 1, none⟩ = some (.string a1_1) := (blk_cell BK111.out 1).trans rfl
  have hfs21 := blk_frozen BK111.out 1
  refine skip_ (w1 := ?_) (by rfl) rfl ?_ ?_
  rotate_left
  ·go_simp
   rfl
  refine hK.out _ _ ?_
  clear hK K
  refine done_ (done_of HT_.out (by kernel_rfl)) ?_
  obtain ⟨Ao22, co22, eo22⟩ := Kd.R_slice HO114.out
  subst eo22
  go_upto_region 6 with (first | ((with_reducible refine gate_callee (f := 21) rfl ?_); refine goesL_ (some 19) rfl rfl Try.func21 (by kernel_rfl) rfl #[.slice Ao22 t112.length co22] rfl (by (try simp only [List.map_toArray, List.map_cons, List.map_nil]); first | done | rfl | (simp only [List.length_drop, List.length_take]; rfl)) ?_; (with_reducible refine (PA.bulletinlaw09_To.calls k _ _ t112 t122 _ ?side1 ?side2 A6.out).mono ?_); (case side1 => refine (Kd.R_reads' (e := 25) (base := w.heap.size) (ok := fun k_ => ((some k_ ≠ (.slice Ao17 y115.length co17 : Value).ownBlock ∧ k_ ≠ gb111) ∧ some k_ ≠ (.slice (some ad121) t118.length co19 : Value).ownBlock)) (n := t112.length) (c := co22) ?_).2.2; exact (by (with_reducible repeat (first | apply Kd.R_alloc | apply Kd.R_drewN | apply Kd.R_drew)); exact (Kd.R_mono (Kd.R_far (p := ⟨gb111, 1, none⟩) (Kd.R_far (p := ⟨gb111, 0, none⟩) (Kd.R_mono HO114.out (fun k_ hk => (⟨hk, hk.1.2⟩ : _ ∧ k_ ≠ gb111))) (fun _ hk => hk.2) (.string ((rd_T25 t118 0).f0))) (fun _ hk => hk.2) (.string ((rd_T25 t118 0).f1))) (fun _ h_ => h_.1)))); (case side2 => exact (Kd.R_reads' HO114.out).2.1); rintro e w23 ⟨v123, rfl, ho0, hb⟩; refine ⟨_, rfl, ?_⟩; have n0_ := as0 (Kd.R_below (by (with_reducible repeat (first | apply Kd.R_alloc | apply Kd.R_drewN | apply Kd.R_drew)); exact (Kd.R_mono (Kd.R_far (p := ⟨gb111, 1, none⟩) (Kd.R_far (p := ⟨gb111, 0, none⟩) (Kd.R_mono HO114.out (fun k_ hk => (⟨hk, hk.1.2⟩ : _ ∧ k_ ≠ gb111))) (fun _ hk => hk.2) (.string ((rd_T25 t118 0).f0))) (fun _ hk => hk.2) (.string ((rd_T25 t118 0).f1))) (fun _ h_ => h_.1))) hb); have n1_ := as0 (Kd.R_below (by (with_reducible repeat (first | apply Kd.R_alloc | apply Kd.R_drewN | apply Kd.R_drew)); exact (Kd.R_mono (Kd.R_far (p := ⟨gb111, 1, none⟩) (Kd.R_far (p := ⟨gb111, 0, none⟩) (Kd.R_mono HO117.out (fun k_ hk => (⟨hk, hk.1.2⟩ : _ ∧ k_ ≠ gb111))) (fun _ hk => hk.2) (.string ((rd_T25 t118 0).f0))) (fun _ hk => hk.2) (.string ((rd_T25 t118 0).f1))) (fun _ h_ => h_.1))) hb); have n2_ := as0 (Kd.R_below (by (with_reducible repeat (first | apply Kd.R_alloc | apply Kd.R_drewN | apply Kd.R_drew)); exact (Kd.R_mono (Kd.R_far (p := ⟨gb111, 1, none⟩) (Kd.R_far (p := ⟨gb111, 0, none⟩) (Kd.R_mono HO120.out (fun k_ hk => (⟨hk, hk.2⟩ : _ ∧ k_ ≠ gb111))) (fun _ hk => hk.2) (.string ((rd_T25 t118 0).f0))) (fun _ hk => hk.2) (.string ((rd_T25 t118 0).f1))) (fun _ h_ => h_.1))) hb); have n3_ := as0 (Kd.R_lower ho0 (below_size (by repeat (first | (with_reducible first | exact HB.out | apply below_alloc | apply pw_below_drewN | apply below_drew1 | refine below_set ?_ GE111.out) | exact HB.out)))); have n4_ := as0 (blk_below (g := gb111) (o := .cells #[.string ((rd_T25 t118 0).f0), .string ((rd_T25 t118 0).f1)] 25 (0, 0)) (by (with_reducible repeat (first | refine blk_drewN ?_ _ | refine blk_drew ?_ | refine blk_alloc ?_ _)); refine blk_put (cs := #[.string ((rd_T25 t118 0).f0), .string a1_1]) ?_ 1 _ rfl; (with_reducible repeat (first | refine blk_drewN ?_ _ | refine blk_drew ?_ | refine blk_alloc ?_ _)); refine blk_put (cs := #[.string a1_0, .string a1_1]) ?_ 0 _ rfl; (with_reducible repeat (first | refine blk_drewN ?_ _ | refine blk_drew ?_ | refine blk_alloc ?_ _)); exact BK111.out) hb); have n5_ := as0 (below_step (by repeat (first | (with_reducible first | exact HB.out | apply below_alloc | apply pw_below_drewN | apply below_drew1 | refine below_set ?_ GE111.out) | exact HB.out)) hb); clear HO114; clear HO117; clear HO120; clear BK111; clear HB; have HO114 := n0_; have HO117 := n1_; have HO120 := n2_; have HO124 := n3_; have BK111 := n4_; have HB := n5_; clear n0_ n1_ n2_ n3_ n4_ n5_; (try clear hb); (try clear hb2); (try clear hk); (try clear hi); (try clear ho0); have hcz24_0 : w23.cell? ⟨gb111, 0, none⟩ = some (.string ((rd_T25 t118 0).f0)) := (blk_cell BK111.out 0).trans rfl; have hcz24_1 : w23.cell? ⟨gb111, 1, none⟩ = some (.string ((rd_T25 t118 0).f1)) := (blk_cell BK111.out 1).trans rfl; have hfz24_0 := blk_frozen BK111.out 0; have hfz24_1 := blk_frozen BK111.out 1) | ((with_reducible refine gate_callee (f := 27) rfl ?_); refine goesL_ (some 23) rfl rfl Try.func27 (by kernel_rfl) rfl #[.slice Ao22 t112.length co22, .string ((rd_T25 t118 0).f0)] rfl (by (try simp only [List.map_toArray, List.map_cons, List.map_nil]); first | done | rfl | (simp only [List.length_drop, List.length_take]; rfl)) ?_; (with_reducible refine (PB.bulletinref09_Without.calls k _ _ t112 ((rd_T25 t118 0).f0) t125 _ ?side1 ?side2 A7.out).mono ?_); (case side1 => repeat (first | exact (Kd.R_reads' HO114.out).2.2 | (with_reducible refine Kd.C_alloc ?_ _) | (with_reducible refine Kd.C_drewN ?_ _) | (with_reducible refine Kd.C_drew ?_))); (case side2 => exact (Kd.R_reads' HO114.out).2.1); rintro e w25 ⟨v126, rfl, ho0, hb⟩; refine ⟨_, rfl, ?_⟩; have n0_ := as0 (Kd.R_elder' (by (with_reducible repeat (first | apply Kd.R_alloc | apply Kd.R_drewN | apply Kd.R_drew)); exact HO114.out) (Kd.R_base ho0) hb); have n1_ := as0 (Kd.R_elder' (by (with_reducible repeat (first | apply Kd.R_alloc | apply Kd.R_drewN | apply Kd.R_drew)); exact HO117.out) (Kd.R_base ho0) hb); have n2_ := as0 (Kd.R_elder' (by (with_reducible repeat (first | apply Kd.R_alloc | apply Kd.R_drewN | apply Kd.R_drew)); exact HO120.out) (Kd.R_base ho0) hb); have n3_ := as0 (Kd.R_below (by (with_reducible repeat (first | apply Kd.R_alloc | apply Kd.R_drewN | apply Kd.R_drew)); exact HO124.out) hb); have n4_ := as0 (Kd.R_lower (Kd.R_newB (Kd.R_new' (Kd.R_new' (Kd.R_new' ho0 (Kd.R_lt (by (with_reducible repeat (first | apply Kd.R_alloc | apply Kd.R_drewN | apply Kd.R_drew)); exact HO114.out))) (Kd.R_lt (by (with_reducible repeat (first | apply Kd.R_alloc | apply Kd.R_drewN | apply Kd.R_drew)); exact HO117.out))) (Kd.R_lt (by (with_reducible repeat (first | apply Kd.R_alloc | apply Kd.R_drewN | apply Kd.R_drew)); exact HO120.out))) (g := gb111) (o := .cells #[.string ((rd_T25 t118 0).f0), .string ((rd_T25 t118 0).f1)] 25 (0, 0)) (by (with_reducible repeat (first | refine blk_drewN ?_ _ | refine blk_drew ?_ | refine blk_alloc ?_ _)); exact BK111.out)) (below_size (by repeat (first | (with_reducible first | exact HB.out | apply below_alloc | apply pw_below_drewN | apply below_drew1 | refine below_set ?_ GE111.out) | exact HB.out)))); have n5_ := as0 (blk_below (g := gb111) (o := .cells #[.string ((rd_T25 t118 0).f0), .string ((rd_T25 t118 0).f1)] 25 (0, 0)) (by (with_reducible repeat (first | refine blk_drewN ?_ _ | refine blk_drew ?_ | refine blk_alloc ?_ _)); exact BK111.out) hb); have n6_ := as0 (below_step (by repeat (first | (with_reducible first | exact HB.out | apply below_alloc | apply pw_below_drewN | apply below_drew1 | refine below_set ?_ GE111.out) | exact HB.out)) hb); clear HO114; clear HO117; clear HO120; clear HO124; clear BK111; clear HB; have HO114 := n0_; have HO117 := n1_; have HO120 := n2_; have HO124 := n3_; have HO127 := n4_; have BK111 := n5_; have HB := n6_; clear n0_ n1_ n2_ n3_ n4_ n5_ n6_; (try clear hb); (try clear hb2); (try clear hk); (try clear hi); (try clear ho0); have hcz26_0 : w25.cell? ⟨gb111, 0, none⟩ = some (.string ((rd_T25 t118 0).f0)) := (blk_cell BK111.out 0).trans rfl; have hcz26_1 : w25.cell? ⟨gb111, 1, none⟩ = some (.string ((rd_T25 t118 0).f1)) := (blk_cell BK111.out 1).trans rfl; have hfz26_0 := blk_frozen BK111.out 0; have hfz26_1 := blk_frozen BK111.out 1; obtain ⟨Ao27, co27, eo27⟩ := Kd.R_slice HO124.out; subst eo27) | ((with_reducible refine gate_callee (f := 28) rfl ?_); refine goesL_ (some 27) rfl rfl Try.func28 (by kernel_rfl) rfl #[.slice Ao27 t122.length co27, .string ((rd_T25 t118 0).f0)] rfl (by (try simp only [List.map_toArray, List.map_cons, List.map_nil]); first | done | rfl | (simp only [List.length_drop, List.length_take]; rfl)) ?_; (with_reducible refine (GV.Without.calls _ _ t122 ((rd_T25 t118 0).f0) t128 _ ?side1 ?side2 A8.out).mono ?_); (case side1 => repeat (first | exact (Kd.R_reads' HO124.out).2.2 | (with_reducible refine Kd.C_alloc ?_ _) | (with_reducible refine Kd.C_drewN ?_ _) | (with_reducible refine Kd.C_drew ?_))); (case side2 => exact (Kd.R_reads' HO124.out).2.1); rintro e w28 ⟨v129, rfl, ho0, hb⟩; refine ⟨_, rfl, ?_⟩; have n0_ := as0 (Kd.R_below (by (with_reducible repeat (first | apply Kd.R_alloc | apply Kd.R_drewN | apply Kd.R_drew)); exact HO114.out) hb); have n1_ := as0 (Kd.R_below (by (with_reducible repeat (first | apply Kd.R_alloc | apply Kd.R_drewN | apply Kd.R_drew)); exact HO117.out) hb); have n2_ := as0 (Kd.R_below (by (with_reducible repeat (first | apply Kd.R_alloc | apply Kd.R_drewN | apply Kd.R_drew)); exact HO120.out) hb); have n3_ := as0 (Kd.R_elder' (by (with_reducible repeat (first | apply Kd.R_alloc | apply Kd.R_drewN | apply Kd.R_drew)); exact HO124.out) (Kd.R_base ho0) hb); have n4_ := as0 (Kd.R_below (by (with_reducible repeat (first | apply Kd.R_alloc | apply Kd.R_drewN | apply Kd.R_drew)); exact HO127.out) hb); have n5_ := as0 (Kd.R_lower (Kd.R_new' ho0 (Kd.R_lt (by (with_reducible repeat (first | apply Kd.R_alloc | apply Kd.R_drewN | apply Kd.R_drew)); exact HO124.out))) (below_size (by repeat (first | (with_reducible first | exact HB.out | apply below_alloc | apply pw_below_drewN | apply below_drew1 | refine below_set ?_ GE111.out) | exact HB.out)))); have n6_ := as0 (blk_below (g := gb111) (o := .cells #[.string ((rd_T25 t118 0).f0), .string ((rd_T25 t118 0).f1)] 25 (0, 0)) (by (with_reducible repeat (first | refine blk_drewN ?_ _ | refine blk_drew ?_ | refine blk_alloc ?_ _)); exact BK111.out) hb); have n7_ := as0 (below_step (by repeat (first | (with_reducible first | exact HB.out | apply below_alloc | apply pw_below_drewN | apply below_drew1 | refine below_set ?_ GE111.out) | exact HB.out)) hb); clear HO114; clear HO117; clear HO120; clear HO124; clear HO127; clear BK111; clear HB; have HO114 := n0_; have HO117 := n1_; have HO120 := n2_; have HO124 := n3_; have HO127 := n4_; have HO130 := n5_; have BK111 := n6_; have HB := n7_; clear n0_ n1_ n2_ n3_ n4_ n5_ n6_ n7_; (try clear hb); (try clear hb2); (try clear hk); (try clear hi); (try clear ho0); have hcz29_0 : w28.cell? ⟨gb111, 0, none⟩ = some (.string ((rd_T25 t118 0).f0)) := (blk_cell BK111.out 0).trans rfl; have hcz29_1 : w28.cell? ⟨gb111, 1, none⟩ = some (.string ((rd_T25 t118 0).f1)) := (blk_cell BK111.out 1).trans rfl; have hfz29_0 := blk_frozen BK111.out 0; have hfz29_1 := blk_frozen BK111.out 1) | ((with_reducible refine gate_callee (f := 29) rfl ?_); refine goesL_ (some 34) rfl rfl Try.func29 (by kernel_rfl) rfl #[.slice Ao27 t122.length co27, .agg #[.string ((rd_T25 t118 0).f0), .string ((rd_T25 t118 0).f1)]] rfl (by (try simp only [List.map_toArray, List.map_cons, List.map_nil]); first | done | rfl | (simp only [List.length_drop, List.length_take]; rfl)) ?_; (with_reducible refine (field_With.calls _ _ t122 ((rd_T25 t118 0).f0) ((rd_T25 t118 0).f1) t131 _ ?side1 ?side2 A9.out).mono ?_); (case side1 => repeat (first | exact (Kd.R_reads' HO124.out).2.2 | (with_reducible refine Kd.C_alloc ?_ _) | (with_reducible refine Kd.C_drewN ?_ _) | (with_reducible refine Kd.C_drew ?_))); (case side2 => exact (Kd.R_reads' HO124.out).2.1); rintro e w30 ⟨v132, rfl, ho0, hb⟩; refine ⟨_, rfl, ?_⟩; have n0_ := as0 (Kd.R_below (by (with_reducible repeat (first | apply Kd.R_alloc | apply Kd.R_drewN | apply Kd.R_drew)); exact HO114.out) hb); have n1_ := as0 (Kd.R_below (by (with_reducible repeat (first | apply Kd.R_alloc | apply Kd.R_drewN | apply Kd.R_drew)); exact HO117.out) hb); have n2_ := as0 (Kd.R_below (by (with_reducible repeat (first | apply Kd.R_alloc | apply Kd.R_drewN | apply Kd.R_drew)); exact HO120.out) hb); have n3_ := as0 (Kd.R_elder' (by (with_reducible repeat (first | apply Kd.R_alloc | apply Kd.R_drewN | apply Kd.R_drew)); exact HO124.out) (Kd.R_base ho0) hb); have n4_ := as0 (Kd.R_below (by (with_reducible repeat (first | apply Kd.R_alloc | apply Kd.R_drewN | apply Kd.R_drew)); exact HO127.out) hb); have n5_ := as0 (Kd.R_elder' (by (with_reducible repeat (first | apply Kd.R_alloc | apply Kd.R_drewN | apply Kd.R_drew)); exact HO130.out) (Kd.R_base ho0) hb); have n6_ := as0 (Kd.R_lower (Kd.R_new' (Kd.R_new' ho0 (Kd.R_lt (by (with_reducible repeat (first | apply Kd.R_alloc | apply Kd.R_drewN | apply Kd.R_drew)); exact HO124.out))) (Kd.R_lt (by (with_reducible repeat (first | apply Kd.R_alloc | apply Kd.R_drewN | apply Kd.R_drew)); exact HO130.out))) (below_size (by repeat (first | (with_reducible first | exact HB.out | apply below_alloc | apply pw_below_drewN | apply below_drew1 | refine below_set ?_ GE111.out) | exact HB.out)))); have n7_ := as0 (blk_below (g := gb111) (o := .cells #[.string ((rd_T25 t118 0).f0), .string ((rd_T25 t118 0).f1)] 25 (0, 0)) (by (with_reducible repeat (first | refine blk_drewN ?_ _ | refine blk_drew ?_ | refine blk_alloc ?_ _)); exact BK111.out) hb); have n8_ := as0 (below_step (by repeat (first | (with_reducible first | exact HB.out | apply below_alloc | apply pw_below_drewN | apply below_drew1 | refine below_set ?_ GE111.out) | exact HB.out)) hb); clear HO114; clear HO117; clear HO120; clear HO124; clear HO127; clear HO130; clear BK111; clear HB; have HO114 := n0_; have HO117 := n1_; have HO120 := n2_; have HO124 := n3_; have HO127 := n4_; have HO130 := n5_; have HO133 := n6_; have BK111 := n7_; have HB := n8_; clear n0_ n1_ n2_ n3_ n4_ n5_ n6_ n7_ n8_; (try clear hb); (try clear hb2); (try clear hk); (try clear hi); (try clear ho0)))
  (try simp only [Act.put, List.setIfInBounds_toArray, List.set_cons_zero, List.set_cons_succ])
  go_cut [51] (fun v51 wc => ∃ (kq : Nat) (x51_9 : Bool), v51 = .bool x51_9 ∧ Aside0 (bulletinlaw09_FieldWith.j0 kq t112 t122 t128 t131 x51_9 = some r) ∧ Aside0 (kq ≤ k) ∧ Aside0 (Kd.R k25 25 wc w.heap.size (fun k_ => k_ ≠ gb111) (.slice Ao22 t112.length co22) t112) ∧ Aside0 (Kd.R k28 28 wc w.heap.size (fun k_ => some k_ ≠ (v129 : Value).ownBlock ∧ some k_ ≠ (v132 : Value).ownBlock) (.slice Ao27 t122.length co27) t122) ∧ Aside0 (Kd.R k28 28 wc w.heap.size (fun k_ => some k_ ≠ ((.slice Ao27 t122.length co27) : Value).ownBlock ∧ some k_ ≠ (v132 : Value).ownBlock) v129 t128) ∧ Aside0 (Kd.R k28 28 wc w.heap.size (fun k_ => some k_ ≠ ((.slice Ao27 t122.length co27) : Value).ownBlock ∧ some k_ ≠ (v129 : Value).ownBlock) v132 t131) ∧ Aside0 (wc.heap[gb111]? = some (.cells #[.string ((rd_T25 t118 0).f0), .string ((rd_T25 t118 0).f1)] 25 (0, 0))) ∧ Aside0 (Below w.heap.size w wc))
  case first =>
   have H := HC10.out
   clear HC10
   replace H := Option.bind_eq_some_iff.mp H
   obtain ⟨t134, A310, H⟩ := H
   replace H : ((PA.bulletinref09_Same.f k t134 t125).bind fun t137 => (if t137 = true then ((PA.bulletinlaw09_Of.f k t131).bind fun t138 => ((some (([] : List (S25)) : List (S25))).bind fun y141 => (if y141.length + t125.length < 4398046511104 then ((some (y141 ++ t125 : List (S25))).bind fun y144 => ((some (([(⟨(rd_T25 t118 0).f0, (rd_T25 t118 0).f1⟩ : S25)] : List (S25)) : List (S25))).bind fun y147 => (if y144.length + y147.length < 4398046511104 then ((PA.bulletinref09_Same.f k t138 (y144 ++ y147)).bind fun t153 => (bulletinlaw09_FieldWith.j0 k t112 t122 t128 t131 (!t153))) else (none)))) else (none)))) else (bulletinlaw09_FieldWith.j0 k t112 t122 t128 t131 true))) = some r := H
   have A31 := as0 A310
   clear A310
   replace H := Option.bind_eq_some_iff.mp H
   obtain ⟨t137, A320, H⟩ := H
   replace H : (if t137 = true then ((PA.bulletinlaw09_Of.f k t131).bind fun t138 => ((some (([] : List (S25)) : List (S25))).bind fun y141 => (if y141.length + t125.length < 4398046511104 then ((some (y141 ++ t125 : List (S25))).bind fun y144 => ((some (([(⟨(rd_T25 t118 0).f0, (rd_T25 t118 0).f1⟩ : S25)] : List (S25)) : List (S25))).bind fun y147 => (if y144.length + y147.length < 4398046511104 then ((PA.bulletinref09_Same.f k t138 (y144 ++ y147)).bind fun t153 => (bulletinlaw09_FieldWith.j0 k t112 t122 t128 t131 (!t153))) else (none)))) else (none)))) else (bulletinlaw09_FieldWith.j0 k t112 t122 t128 t131 true)) = some r := H
   have A32 := as0 A320
   clear A320
   by_cases c33 : t137 = true
   ·subst c33
    have H1 : ((PA.bulletinlaw09_Of.f k t131).bind fun t138 => ((some (([] : List (S25)) : List (S25))).bind fun y141 => (if y141.length + t125.length < 4398046511104 then ((some (y141 ++ t125 : List (S25))).bind fun y144 => ((some (([(⟨(rd_T25 t118 0).f0, (rd_T25 t118 0).f1⟩ : S25)] : List (S25)) : List (S25))).bind fun y147 => (if y144.length + y147.length < 4398046511104 then ((PA.bulletinref09_Same.f k t138 (y144 ++ y147)).bind fun t153 => (bulletinlaw09_FieldWith.j0 k t112 t122 t128 t131 (!t153))) else (none)))) else (none)))) = some r := by rw [if_pos rfl] at H; exact H
    clear H
    have H := H1
    clear H1
    replace H := Option.bind_eq_some_iff.mp H
    obtain ⟨t138, A340, H⟩ := H
    replace H : ((some (([] : List (S25)) : List (S25))).bind fun y141 => (if y141.length + t125.length < 4398046511104 then ((some (y141 ++ t125 : List (S25))).bind fun y144 => ((some (([(⟨(rd_T25 t118 0).f0, (rd_T25 t118 0).f1⟩ : S25)] : List (S25)) : List (S25))).bind fun y147 => (if y144.length + y147.length < 4398046511104 then ((PA.bulletinref09_Same.f k t138 (y144 ++ y147)).bind fun t153 => (bulletinlaw09_FieldWith.j0 k t112 t122 t128 t131 (!t153))) else (none)))) else (none))) = some r := H
    have A34 := as0 A340
    clear A340
    obtain ⟨y141, hy141⟩ : ∃ y_ : List (S25), y_ = (([] : List (S25))) := ⟨_, rfl⟩
    replace H : (if y141.length + t125.length < 4398046511104 then ((some (y141 ++ t125 : List (S25))).bind fun y144 => ((some (([(⟨(rd_T25 t118 0).f0, (rd_T25 t118 0).f1⟩ : S25)] : List (S25)) : List (S25))).bind fun y147 => (if y144.length + y147.length < 4398046511104 then ((PA.bulletinref09_Same.f k t138 (y144 ++ y147)).bind fun t153 => (bulletinlaw09_FieldWith.j0 k t112 t122 t128 t131 (!t153))) else (none)))) else (none)) = some r := by first | (rw [hy141]; with_reducible exact H) | (have H2_ := (Option.bind_some _ _).symm.trans H; rw [hy141]; with_reducible exact H2_) | (have H2_ := (Option.bind_some _ _).symm.trans H; with_reducible exact H2_) | with_reducible exact H | (rw [hy141]; exact H) | exact H
    have Ny141 := as0 hy141
    clear hy141
    by_cases c35 : y141.length + t125.length < 4398046511104
    ·rw [if_pos c35] at H
     have LMc35 := as0 c35
     clear c35
     obtain ⟨y144, hy144⟩ : ∃ y_ : List (S25), y_ = (y141 ++ t125) := ⟨_, rfl⟩
     replace H : ((some (([(⟨(rd_T25 t118 0).f0, (rd_T25 t118 0).f1⟩ : S25)] : List (S25)) : List (S25))).bind fun y147 => (if y144.length + y147.length < 4398046511104 then ((PA.bulletinref09_Same.f k t138 (y144 ++ y147)).bind fun t153 => (bulletinlaw09_FieldWith.j0 k t112 t122 t128 t131 (!t153))) else (none))) = some r := by first | (rw [hy144]; with_reducible exact H) | (have H2_ := (Option.bind_some _ _).symm.trans H; rw [hy144]; with_reducible exact H2_) | (have H2_ := (Option.bind_some _ _).symm.trans H; with_reducible exact H2_) | with_reducible exact H | (rw [hy144]; exact H) | exact H
     have Ny144 := as0 hy144
     clear hy144
     obtain ⟨y147, hy147⟩ : ∃ y_ : List (S25), y_ = (([(⟨(rd_T25 t118 0).f0, (rd_T25 t118 0).f1⟩ : S25)] : List (S25))) := ⟨_, rfl⟩
     replace H : (if y144.length + y147.length < 4398046511104 then ((PA.bulletinref09_Same.f k t138 (y144 ++ y147)).bind fun t153 => (bulletinlaw09_FieldWith.j0 k t112 t122 t128 t131 (!t153))) else (none)) = some r := by first | (rw [hy147]; with_reducible exact H) | (have H2_ := (Option.bind_some _ _).symm.trans H; rw [hy147]; with_reducible exact H2_) | (have H2_ := (Option.bind_some _ _).symm.trans H; with_reducible exact H2_) | with_reducible exact H | (rw [hy147]; exact H) | exact H
     have Ny147 := as0 hy147
     clear hy147
     by_cases c36 : y144.length + y147.length < 4398046511104
     ·rw [if_pos c36] at H
      have LMc36 := as0 c36
      clear c36
      obtain ⟨y150, hy150⟩ : ∃ y_ : List (S25), y_ = (y144 ++ y147) := ⟨_, rfl⟩
      replace H : ((PA.bulletinref09_Same.f k t138 y150).bind fun t153 => (bulletinlaw09_FieldWith.j0 k t112 t122 t128 t131 (!t153))) = some r := by first | (rw [hy150]; with_reducible exact H) | (have H2_ := (Option.bind_some _ _).symm.trans H; rw [hy150]; with_reducible exact H2_) | (have H2_ := (Option.bind_some _ _).symm.trans H; with_reducible exact H2_) | with_reducible exact H | (rw [hy150]; exact H) | exact H
      have Ny150 := as0 hy150
      clear hy150
      replace H := Option.bind_eq_some_iff.mp H
      obtain ⟨t153, A370, H⟩ := H
      replace H : (bulletinlaw09_FieldWith.j0 k t112 t122 t128 t131 (!t153)) = some r := H
      have A37 := as0 A370
      clear A370
      have H' := as0 H
      clear H
      obtain ⟨Ao38, co38, eo38⟩ := Kd.R_slice HO130.out
      subst eo38
      obtain ⟨Ao39, co39, eo39⟩ := Kd.R_slice HO127.out
      subst eo39
      obtain ⟨Ao40, co40, eo40⟩ := Kd.R_slice HO133.out
      subst eo40
      try go_wp2
      have n0_ := as0 (Kd.R_drew HO114.out)
      have n1_ := as0 (Kd.R_drew HO117.out)
      have n2_ := as0 (Kd.R_drew HO120.out)
      have n3_ := as0 (Kd.R_drew HO124.out)
      have n4_ := as0 (Kd.R_drew HO127.out)
      have n5_ := as0 (Kd.R_drew HO130.out)
      have n6_ := as0 (Kd.R_drew HO133.out)
      have n7_ := as0 (blk_drew BK111.out)
      have n8_ := as0 (below_drew1 HB.out)
      clear HO114
      clear HO117
      clear HO120
      clear HO124
      clear HO127
      clear HO130
      clear HO133
      clear BK111
      clear HB
      have HO114 := n0_
      have HO117 := n1_
      have HO120 := n2_
      have HO124 := n3_
      have HO127 := n4_
      have HO130 := n5_
      have HO133 := n6_
      have BK111 := n7_
      have HB := n8_
      clear n0_ n1_ n2_ n3_ n4_ n5_ n6_ n7_ n8_
      refine start_ (n := 17) (S := fun w' => w'.cell? ⟨gb111, 0, none⟩ = some (.string ((rd_T25 t118 0).f0)) ∧ w'.cell? ⟨gb111, 1, none⟩ = some (.string ((rd_T25 t118 0).f1))) (ds := []) #[false, false, false, false, false, false, false, false, false, false, false, false, false, false, false, false, false] (by kernel_rfl) rfl rfl ⟨(blk_cell BK111.out 0).trans rfl, (blk_cell BK111.out 1).trans rfl⟩ (fun hHeld => ?_); refine with_tabW bulletinlaw09_FieldWith.tab6 bulletinlaw09_FieldWith.bits6 (fun HT_ HW_ => ?_)
      generalize w30.drew = w41 at HO114 HO117 HO120 HO124 HO127 HO130 HO133 BK111 HB hHeld ⊢
      refine pure_ (i := 0) (N := some 35) (v := ?_) (a' := ?_) #[true, false, false, false, false, false, false, false, false, false, false, false, false, false, false, false, false] rfl rfl (any_of HT_.out (by kernel_rfl)) (fun _ _ _ h => h) (Or.inl ⟨by rfl, ?_⟩) ?_ ?_
      rotate_left
      ·intro w'
       go_simp
       with_reducible rfl
      rotate_left
      ·simp only [Act.put, List.setIfInBounds_toArray, List.set_cons_zero, List.set_cons_succ, i64_w, i32_w]
       rfl
      refine pure_ (i := 2) (N := some 37) (v := ?_) (a' := ?_) #[true, false, true, false, false, false, false, false, false, false, false, false, false, false, false, false, false] rfl rfl (any_of HT_.out (by kernel_rfl)) (fun _ _ _ h => h) (Or.inl ⟨by rfl, ?_⟩) ?_ ?_
      rotate_left
      ·intro w'
       go_simp
       with_reducible rfl
      rotate_left
      ·simp only [Act.put, List.setIfInBounds_toArray, List.set_cons_zero, List.set_cons_succ, i64_w, i32_w]
       rfl
      refine one_ (i := 1) (N := some 36) #[true, true, true, false, false, false, false, false, false, false, false, false, false, false, false, false, false] rfl rfl (one_of HT_.out (by kernel_rfl)) (by decide) (fun K hK => ?_)
      refine goes_ Try.func25 (by kernel_rfl) rfl #[.slice Ao38 t128.length co38] (by rfl) rfl rfl (by (try simp only [List.map_toArray, List.map_cons, List.map_nil]); first | done | rfl | (simp only [List.length_drop, List.length_take]; rfl)) ?_
      with_reducible refine (PA.bulletinlaw09_Of.calls k _ _ t128 t134 _ ?side1 ?side2 A31.out).mono ?_
      (case side1 => repeat (first | exact (Kd.R_reads' HO130.out).2.2 | (with_reducible refine Kd.C_alloc ?_ _) | (with_reducible refine Kd.C_drewN ?_ _) | (with_reducible refine Kd.C_drew ?_)))
      (case side2 => exact (Kd.R_reads' HO130.out).2.1)
      rintro e w42 ⟨v135, rfl, ho0, hb⟩
      refine ⟨_, rfl, ?_⟩
      have n0_ := as0 (Kd.R_elder' HO114.out (Kd.R_base ho0) hb)
      have n1_ := as0 (Kd.R_elder' HO117.out (Kd.R_base ho0) hb)
      have n2_ := as0 (Kd.R_elder' HO120.out (Kd.R_base ho0) hb)
      have n3_ := as0 (Kd.R_below HO124.out hb)
      have n4_ := as0 (Kd.R_elder' HO127.out (Kd.R_base ho0) hb)
      have n5_ := as0 (Kd.R_below HO130.out hb)
      have n6_ := as0 (Kd.R_below HO133.out hb)
      have n7_ := as0 (Kd.R_lower (Kd.R_newB (Kd.R_new' (Kd.R_new' (Kd.R_new' (Kd.R_new' ho0 (Kd.R_lt HO114.out)) (Kd.R_lt HO117.out)) (Kd.R_lt HO120.out)) (Kd.R_lt HO127.out)) (g := gb111) (o := .cells #[.string ((rd_T25 t118 0).f0), .string ((rd_T25 t118 0).f1)] 25 (0, 0)) BK111.out) (below_size HB.out))
      have n8_ := as0 (blk_below (g := gb111) (o := .cells #[.string ((rd_T25 t118 0).f0), .string ((rd_T25 t118 0).f1)] 25 (0, 0)) BK111.out hb)
      have n9_ := as0 (below_step HB.out hb)
      clear HO114
      clear HO117
      clear HO120
      clear HO124
      clear HO127
      clear HO130
      clear HO133
      clear BK111
      clear HB
      have HO114 := n0_
      have HO117 := n1_
      have HO120 := n2_
      have HO124 := n3_
      have HO127 := n4_
      have HO130 := n5_
      have HO133 := n6_
      have HO136 := n7_
      have BK111 := n8_
      have HB := n9_
      clear n0_ n1_ n2_ n3_ n4_ n5_ n6_ n7_ n8_ n9_
      obtain ⟨Ao43, co43, eo43⟩ := Kd.R_slice HO136.out
      (first | subst eo43 | (injection eo43 with f1_ f2_ f3_; have f4_ := f1_.symm; have f5_ := f3_.symm; clear f1_ f2_ f3_; subst f4_; subst f5_))
      refine hK.out _ _ ⟨(blk_cell BK111.out 0).trans rfl, (blk_cell BK111.out 1).trans rfl⟩ (fun hHeld => ?_)
      clear hK K
      refine norm_ (a' := ?_) ?_ ?_
      rotate_left
      ·show Act.put _ (some 36) _ = _
       simp only [Act.put, List.setIfInBounds_toArray, List.set_cons_zero, List.set_cons_succ, i64_w, i32_w]
       rfl
      refine one_ (i := 3) (N := some 38) #[true, true, true, true, false, false, false, false, false, false, false, false, false, false, false, false, false] rfl rfl (one_of HT_.out (by kernel_rfl)) (by decide) (fun K hK => ?_)
      refine goes_ Try.func24 (by kernel_rfl) rfl #[.slice Ao43 t134.length co43, .slice Ao39 t125.length co39] (by rfl) rfl rfl (by (try simp only [List.map_toArray, List.map_cons, List.map_nil]); first | done | rfl | (simp only [List.length_drop, List.length_take]; rfl)) ?_
      with_reducible refine (PA.bulletinref09_Same.calls k _ _ t134 _ _ t125 true _ ?side1 ?side2 ?side3 ?side4 A32.out).mono ?_
      (case side1 => repeat (first | exact (Kd.R_reads' HO136.out).2.2 | (with_reducible refine Kd.C_alloc ?_ _) | (with_reducible refine Kd.C_drewN ?_ _) | (with_reducible refine Kd.C_drew ?_)))
      (case side2 => exact (Kd.R_reads' HO136.out).2.1)
      (case side3 => repeat (first | exact (Kd.R_reads' HO127.out).2.2 | (with_reducible refine Kd.C_alloc ?_ _) | (with_reducible refine Kd.C_drewN ?_ _) | (with_reducible refine Kd.C_drew ?_)))
      (case side4 => exact (Kd.R_reads' HO127.out).2.1)
      rintro e w' ⟨rfl, ⟨nd, rfl⟩⟩
      refine ⟨_, rfl, ?_⟩
      refine hK.out _ _ ⟨(blk_cell BK111.out 0).trans rfl, (blk_cell BK111.out 1).trans rfl⟩ (fun hHeld => ?_)
      clear hK K
      refine norm_ (a' := ?_) ?_ ?_
      rotate_left
      ·show Act.put _ (some 38) _ = _
       simp only [Act.put, List.setIfInBounds_toArray, List.set_cons_zero, List.set_cons_succ, i64_w, i32_w]
       rfl
      refine pure_ (i := 4) (N := some 39) (v := ?_) (a' := ?_) #[true, true, true, true, true, false, false, false, false, false, false, false, false, false, false, false, false] rfl rfl (any_of HT_.out (by kernel_rfl)) (fun _ _ _ h => h) (Or.inl ⟨by rfl, ?_⟩) ?_ ?_
      rotate_left
      ·intro w'
       go_simp
       with_reducible rfl
      rotate_left
      ·simp only [Act.put, List.setIfInBounds_toArray, List.set_cons_zero, List.set_cons_succ, i64_w, i32_w]
       rfl
      refine pure_ (i := 5) (N := some 40) (v := ?_) (a' := ?_) #[true, true, true, true, true, true, false, false, false, false, false, false, false, false, false, false, false] rfl rfl (any_of HT_.out (by kernel_rfl)) (fun _ _ _ h => h) (Or.inl ⟨by rfl, ?_⟩) ?_ ?_
      rotate_left
      ·intro w'
       go_simp
       with_reducible rfl
      rotate_left
      ·simp only [Act.put, List.setIfInBounds_toArray, List.set_cons_zero, List.set_cons_succ, i64_w, i32_w]
       rfl
      refine pure_ (i := 6) (N := some 41) (v := ?_) (a' := ?_) #[true, true, true, true, true, true, true, false, false, false, false, false, false, false, false, false, false] rfl rfl (any_of HT_.out (by kernel_rfl)) (fun _ _ _ h => h) (Or.inl ⟨by rfl, ?_⟩) ?_ ?_
      rotate_left
      ·intro w'
       go_simp
       with_reducible rfl
      rotate_left
      ·simp only [Act.put, List.setIfInBounds_toArray, List.set_cons_zero, List.set_cons_succ, i64_w, i32_w]
       rfl
      refine pure_ (i := 9) (N := some 44) (v := ?_) (a' := ?_) #[true, true, true, true, true, true, true, false, false, true, false, false, false, false, false, false, false] rfl rfl (any_of HT_.out (by kernel_rfl)) (fun _ _ _ h => h) (Or.inl ⟨by rfl, ?_⟩) ?_ ?_
      rotate_left
      ·intro w'
       go_simp
       with_reducible rfl
      rotate_left
      ·simp only [Act.put, List.setIfInBounds_toArray, List.set_cons_zero, List.set_cons_succ, i64_w, i32_w]
       rfl
      refine take_ (i := 11) (N := some 46) (v := ?_) (a' := ?_) #[true, true, true, true, true, true, true, false, false, true, false, true, false, false, false, false, false] rfl rfl (take_ofW HT_.out HW_.out (by kernel_rfl)) (fun _ _ _ h => h) (Or.inl ⟨by rfl, ?_⟩) hHeld ?_ ?_
      rotate_left
      ·rintro w' ⟨s0, s1⟩
       go_simp
       with_reducible rfl
      rotate_left
      ·simp only [Act.put, List.setIfInBounds_toArray, List.set_cons_zero, List.set_cons_succ, i64_w, i32_w]
       rfl
      refine join_ (σ := Value × Value × Value × Value) 4 #[true, true, true, true, true, true, true, true, true, true, true, true, true, false, false, false, false] (fun s_ => [(42, s_.1), (43, s_.2.1), (45, s_.2.2.1), (47, s_.2.2.2)]) (fun s_ w' => (w'.cell? ⟨gb111, 0, none⟩ = some (.string ((rd_T25 t118 0).f0)) ∧ w'.cell? ⟨gb111, 1, none⟩ = some (.string ((rd_T25 t118 0).f1))) ∧ (Kd.R k25 25 w' w.heap.size (fun k_ => some k_ ≠ (.slice Ao17 y115.length co17 : Value).ownBlock ∧ some k_ ≠ (.slice (some ad121) t118.length co19 : Value).ownBlock ∧ some k_ ≠ (.slice Ao39 t125.length co39 : Value).ownBlock ∧ some k_ ≠ (.slice Ao43 t134.length co43 : Value).ownBlock ∧ some k_ ≠ (s_.1 : Value).ownBlock ∧ some k_ ≠ (s_.2.2.1 : Value).ownBlock ∧ some k_ ≠ (s_.2.2.2 : Value).ownBlock ∧ k_ ≠ gb111) (.slice Ao22 t112.length co22) t112) ∧ (Kd.R k25 25 w' w.heap.size (fun k_ => some k_ ≠ (.slice Ao22 t112.length co22 : Value).ownBlock ∧ some k_ ≠ (.slice (some ad121) t118.length co19 : Value).ownBlock ∧ some k_ ≠ (.slice Ao39 t125.length co39 : Value).ownBlock ∧ some k_ ≠ (.slice Ao43 t134.length co43 : Value).ownBlock ∧ some k_ ≠ (s_.1 : Value).ownBlock ∧ some k_ ≠ (s_.2.2.1 : Value).ownBlock ∧ some k_ ≠ (s_.2.2.2 : Value).ownBlock ∧ k_ ≠ gb111) (.slice Ao17 y115.length co17) y115) ∧ (Kd.R k25 25 w' w.heap.size (fun k_ => some k_ ≠ (.slice Ao22 t112.length co22 : Value).ownBlock ∧ some k_ ≠ (.slice Ao17 y115.length co17 : Value).ownBlock ∧ some k_ ≠ (.slice Ao39 t125.length co39 : Value).ownBlock ∧ some k_ ≠ (.slice Ao43 t134.length co43 : Value).ownBlock ∧ some k_ ≠ (s_.1 : Value).ownBlock ∧ some k_ ≠ (s_.2.2.1 : Value).ownBlock ∧ some k_ ≠ (s_.2.2.2 : Value).ownBlock ∧ k_ ≠ gb111) (.slice (some ad121) t118.length co19) t118) ∧ (Kd.R k28 28 w' w.heap.size (fun k_ => some k_ ≠ (.slice Ao38 t128.length co38 : Value).ownBlock ∧ some k_ ≠ (.slice Ao40 t131.length co40 : Value).ownBlock) (.slice Ao27 t122.length co27) t122) ∧ (Kd.R k25 25 w' w.heap.size (fun k_ => some k_ ≠ (.slice Ao22 t112.length co22 : Value).ownBlock ∧ some k_ ≠ (.slice Ao17 y115.length co17 : Value).ownBlock ∧ some k_ ≠ (.slice (some ad121) t118.length co19 : Value).ownBlock ∧ some k_ ≠ (.slice Ao43 t134.length co43 : Value).ownBlock ∧ some k_ ≠ (s_.1 : Value).ownBlock ∧ some k_ ≠ (s_.2.2.1 : Value).ownBlock ∧ some k_ ≠ (s_.2.2.2 : Value).ownBlock ∧ k_ ≠ gb111) (.slice Ao39 t125.length co39) t125) ∧ (Kd.R k28 28 w' w.heap.size (fun k_ => some k_ ≠ (.slice Ao27 t122.length co27 : Value).ownBlock ∧ some k_ ≠ (.slice Ao40 t131.length co40 : Value).ownBlock) (.slice Ao38 t128.length co38) t128) ∧ (Kd.R k28 28 w' w.heap.size (fun k_ => some k_ ≠ (.slice Ao27 t122.length co27 : Value).ownBlock ∧ some k_ ≠ (.slice Ao38 t128.length co38 : Value).ownBlock) (.slice Ao40 t131.length co40) t131) ∧ (Kd.R k25 25 w' w.heap.size (fun k_ => some k_ ≠ (.slice Ao22 t112.length co22 : Value).ownBlock ∧ some k_ ≠ (.slice Ao17 y115.length co17 : Value).ownBlock ∧ some k_ ≠ (.slice (some ad121) t118.length co19 : Value).ownBlock ∧ some k_ ≠ (.slice Ao39 t125.length co39 : Value).ownBlock ∧ some k_ ≠ (s_.1 : Value).ownBlock ∧ some k_ ≠ (s_.2.2.1 : Value).ownBlock ∧ some k_ ≠ (s_.2.2.2 : Value).ownBlock ∧ k_ ≠ gb111) (.slice Ao43 t134.length co43) t134) ∧ (Kd.R k25 25 w' w.heap.size (fun k_ => some k_ ≠ (.slice Ao22 t112.length co22 : Value).ownBlock ∧ some k_ ≠ (.slice Ao17 y115.length co17 : Value).ownBlock ∧ some k_ ≠ (.slice (some ad121) t118.length co19 : Value).ownBlock ∧ some k_ ≠ (.slice Ao39 t125.length co39 : Value).ownBlock ∧ some k_ ≠ (.slice Ao43 t134.length co43 : Value).ownBlock ∧ some k_ ≠ (s_.2.2.1 : Value).ownBlock ∧ some k_ ≠ (s_.2.2.2 : Value).ownBlock ∧ k_ ≠ gb111) s_.1 t138) ∧ (Kd.R k25 25 w' w.heap.size (fun k_ => some k_ ≠ (.slice Ao22 t112.length co22 : Value).ownBlock ∧ some k_ ≠ (.slice Ao17 y115.length co17 : Value).ownBlock ∧ some k_ ≠ (.slice (some ad121) t118.length co19 : Value).ownBlock ∧ some k_ ≠ (.slice Ao39 t125.length co39 : Value).ownBlock ∧ some k_ ≠ (.slice Ao43 t134.length co43 : Value).ownBlock ∧ some k_ ≠ (s_.1 : Value).ownBlock ∧ some k_ ≠ (s_.2.2.2 : Value).ownBlock ∧ k_ ≠ gb111) s_.2.2.1 y144) ∧ (Kd.R k25 25 w' w.heap.size (fun k_ => some k_ ≠ (.slice Ao22 t112.length co22 : Value).ownBlock ∧ some k_ ≠ (.slice Ao17 y115.length co17 : Value).ownBlock ∧ some k_ ≠ (.slice (some ad121) t118.length co19 : Value).ownBlock ∧ some k_ ≠ (.slice Ao39 t125.length co39 : Value).ownBlock ∧ some k_ ≠ (.slice Ao43 t134.length co43 : Value).ownBlock ∧ some k_ ≠ (s_.1 : Value).ownBlock ∧ some k_ ≠ (s_.2.2.1 : Value).ownBlock ∧ k_ ≠ gb111) s_.2.2.2 y147) ∧ (w'.heap[gb111]? = some (.cells #[.string ((rd_T25 t118 0).f0), .string ((rd_T25 t118 0).f1)] 25 (0, 0))) ∧ (Below w.heap.size w w')) ?_ ?_
      rotate_left
      ·intro hJ7_8_10_12
       refine join_ (σ := Value × Value × Value) 5 #[true, true, true, true, true, true, true, true, true, true, true, true, false, false, false, false, false] (fun s_ => [(42, s_.1), (43, s_.2.1), (45, s_.2.2)]) (fun s_ w' => (w'.cell? ⟨gb111, 0, none⟩ = some (.string ((rd_T25 t118 0).f0)) ∧ w'.cell? ⟨gb111, 1, none⟩ = some (.string ((rd_T25 t118 0).f1))) ∧ (Kd.R k25 25 w' w.heap.size (fun k_ => some k_ ≠ (.slice Ao17 y115.length co17 : Value).ownBlock ∧ some k_ ≠ (.slice (some ad121) t118.length co19 : Value).ownBlock ∧ some k_ ≠ (.slice Ao39 t125.length co39 : Value).ownBlock ∧ some k_ ≠ (.slice Ao43 t134.length co43 : Value).ownBlock ∧ some k_ ≠ (s_.1 : Value).ownBlock ∧ some k_ ≠ (s_.2.2 : Value).ownBlock ∧ k_ ≠ gb111) (.slice Ao22 t112.length co22) t112) ∧ (Kd.R k25 25 w' w.heap.size (fun k_ => some k_ ≠ (.slice Ao22 t112.length co22 : Value).ownBlock ∧ some k_ ≠ (.slice (some ad121) t118.length co19 : Value).ownBlock ∧ some k_ ≠ (.slice Ao39 t125.length co39 : Value).ownBlock ∧ some k_ ≠ (.slice Ao43 t134.length co43 : Value).ownBlock ∧ some k_ ≠ (s_.1 : Value).ownBlock ∧ some k_ ≠ (s_.2.2 : Value).ownBlock ∧ k_ ≠ gb111) (.slice Ao17 y115.length co17) y115) ∧ (Kd.R k25 25 w' w.heap.size (fun k_ => some k_ ≠ (.slice Ao22 t112.length co22 : Value).ownBlock ∧ some k_ ≠ (.slice Ao17 y115.length co17 : Value).ownBlock ∧ some k_ ≠ (.slice Ao39 t125.length co39 : Value).ownBlock ∧ some k_ ≠ (.slice Ao43 t134.length co43 : Value).ownBlock ∧ some k_ ≠ (s_.1 : Value).ownBlock ∧ some k_ ≠ (s_.2.2 : Value).ownBlock ∧ k_ ≠ gb111) (.slice (some ad121) t118.length co19) t118) ∧ (Kd.R k28 28 w' w.heap.size (fun k_ => some k_ ≠ (.slice Ao38 t128.length co38 : Value).ownBlock ∧ some k_ ≠ (.slice Ao40 t131.length co40 : Value).ownBlock) (.slice Ao27 t122.length co27) t122) ∧ (Kd.R k25 25 w' w.heap.size (fun k_ => some k_ ≠ (.slice Ao22 t112.length co22 : Value).ownBlock ∧ some k_ ≠ (.slice Ao17 y115.length co17 : Value).ownBlock ∧ some k_ ≠ (.slice (some ad121) t118.length co19 : Value).ownBlock ∧ some k_ ≠ (.slice Ao43 t134.length co43 : Value).ownBlock ∧ some k_ ≠ (s_.1 : Value).ownBlock ∧ some k_ ≠ (s_.2.2 : Value).ownBlock ∧ k_ ≠ gb111) (.slice Ao39 t125.length co39) t125) ∧ (Kd.R k28 28 w' w.heap.size (fun k_ => some k_ ≠ (.slice Ao27 t122.length co27 : Value).ownBlock ∧ some k_ ≠ (.slice Ao40 t131.length co40 : Value).ownBlock) (.slice Ao38 t128.length co38) t128) ∧ (Kd.R k28 28 w' w.heap.size (fun k_ => some k_ ≠ (.slice Ao27 t122.length co27 : Value).ownBlock ∧ some k_ ≠ (.slice Ao38 t128.length co38 : Value).ownBlock) (.slice Ao40 t131.length co40) t131) ∧ (Kd.R k25 25 w' w.heap.size (fun k_ => some k_ ≠ (.slice Ao22 t112.length co22 : Value).ownBlock ∧ some k_ ≠ (.slice Ao17 y115.length co17 : Value).ownBlock ∧ some k_ ≠ (.slice (some ad121) t118.length co19 : Value).ownBlock ∧ some k_ ≠ (.slice Ao39 t125.length co39 : Value).ownBlock ∧ some k_ ≠ (s_.1 : Value).ownBlock ∧ some k_ ≠ (s_.2.2 : Value).ownBlock ∧ k_ ≠ gb111) (.slice Ao43 t134.length co43) t134) ∧ (Kd.R k25 25 w' w.heap.size (fun k_ => some k_ ≠ (.slice Ao22 t112.length co22 : Value).ownBlock ∧ some k_ ≠ (.slice Ao17 y115.length co17 : Value).ownBlock ∧ some k_ ≠ (.slice (some ad121) t118.length co19 : Value).ownBlock ∧ some k_ ≠ (.slice Ao39 t125.length co39 : Value).ownBlock ∧ some k_ ≠ (.slice Ao43 t134.length co43 : Value).ownBlock ∧ some k_ ≠ (s_.2.2 : Value).ownBlock ∧ k_ ≠ gb111) s_.1 t138) ∧ (Kd.R k25 25 w' w.heap.size (fun k_ => some k_ ≠ (.slice Ao22 t112.length co22 : Value).ownBlock ∧ some k_ ≠ (.slice Ao17 y115.length co17 : Value).ownBlock ∧ some k_ ≠ (.slice (some ad121) t118.length co19 : Value).ownBlock ∧ some k_ ≠ (.slice Ao39 t125.length co39 : Value).ownBlock ∧ some k_ ≠ (.slice Ao43 t134.length co43 : Value).ownBlock ∧ some k_ ≠ (s_.1 : Value).ownBlock ∧ k_ ≠ gb111) s_.2.2 y144) ∧ (w'.heap[gb111]? = some (.cells #[.string ((rd_T25 t118 0).f0), .string ((rd_T25 t118 0).f1)] 25 (0, 0))) ∧ (Below w.heap.size w w')) ?_ ?_
       rotate_left
       ·intro hJ7_8_10
        refine join_ (σ := Value × Value × Value) 5 #[true, true, true, true, true, true, true, true, true, true, false, true, true, false, false, false, false] (fun s_ => [(42, s_.1), (43, s_.2.1), (47, s_.2.2)]) (fun s_ w' => (w'.cell? ⟨gb111, 0, none⟩ = some (.string ((rd_T25 t118 0).f0)) ∧ w'.cell? ⟨gb111, 1, none⟩ = some (.string ((rd_T25 t118 0).f1))) ∧ (Kd.R k25 25 w' w.heap.size (fun k_ => some k_ ≠ (.slice Ao17 y115.length co17 : Value).ownBlock ∧ some k_ ≠ (.slice (some ad121) t118.length co19 : Value).ownBlock ∧ some k_ ≠ (.slice Ao39 t125.length co39 : Value).ownBlock ∧ some k_ ≠ (.slice Ao43 t134.length co43 : Value).ownBlock ∧ some k_ ≠ (s_.1 : Value).ownBlock ∧ some k_ ≠ (s_.2.1 : Value).ownBlock ∧ some k_ ≠ (s_.2.2 : Value).ownBlock ∧ k_ ≠ gb111) (.slice Ao22 t112.length co22) t112) ∧ (Kd.R k25 25 w' w.heap.size (fun k_ => some k_ ≠ (.slice Ao22 t112.length co22 : Value).ownBlock ∧ some k_ ≠ (.slice (some ad121) t118.length co19 : Value).ownBlock ∧ some k_ ≠ (.slice Ao39 t125.length co39 : Value).ownBlock ∧ some k_ ≠ (.slice Ao43 t134.length co43 : Value).ownBlock ∧ some k_ ≠ (s_.1 : Value).ownBlock ∧ some k_ ≠ (s_.2.1 : Value).ownBlock ∧ some k_ ≠ (s_.2.2 : Value).ownBlock ∧ k_ ≠ gb111) (.slice Ao17 y115.length co17) y115) ∧ (Kd.R k25 25 w' w.heap.size (fun k_ => some k_ ≠ (.slice Ao22 t112.length co22 : Value).ownBlock ∧ some k_ ≠ (.slice Ao17 y115.length co17 : Value).ownBlock ∧ some k_ ≠ (.slice Ao39 t125.length co39 : Value).ownBlock ∧ some k_ ≠ (.slice Ao43 t134.length co43 : Value).ownBlock ∧ some k_ ≠ (s_.1 : Value).ownBlock ∧ some k_ ≠ (s_.2.1 : Value).ownBlock ∧ some k_ ≠ (s_.2.2 : Value).ownBlock ∧ k_ ≠ gb111) (.slice (some ad121) t118.length co19) t118) ∧ (Kd.R k28 28 w' w.heap.size (fun k_ => some k_ ≠ (.slice Ao38 t128.length co38 : Value).ownBlock ∧ some k_ ≠ (.slice Ao40 t131.length co40 : Value).ownBlock) (.slice Ao27 t122.length co27) t122) ∧ (Kd.R k25 25 w' w.heap.size (fun k_ => some k_ ≠ (.slice Ao22 t112.length co22 : Value).ownBlock ∧ some k_ ≠ (.slice Ao17 y115.length co17 : Value).ownBlock ∧ some k_ ≠ (.slice (some ad121) t118.length co19 : Value).ownBlock ∧ some k_ ≠ (.slice Ao43 t134.length co43 : Value).ownBlock ∧ some k_ ≠ (s_.1 : Value).ownBlock ∧ some k_ ≠ (s_.2.1 : Value).ownBlock ∧ some k_ ≠ (s_.2.2 : Value).ownBlock ∧ k_ ≠ gb111) (.slice Ao39 t125.length co39) t125) ∧ (Kd.R k28 28 w' w.heap.size (fun k_ => some k_ ≠ (.slice Ao27 t122.length co27 : Value).ownBlock ∧ some k_ ≠ (.slice Ao40 t131.length co40 : Value).ownBlock) (.slice Ao38 t128.length co38) t128) ∧ (Kd.R k28 28 w' w.heap.size (fun k_ => some k_ ≠ (.slice Ao27 t122.length co27 : Value).ownBlock ∧ some k_ ≠ (.slice Ao38 t128.length co38 : Value).ownBlock) (.slice Ao40 t131.length co40) t131) ∧ (Kd.R k25 25 w' w.heap.size (fun k_ => some k_ ≠ (.slice Ao22 t112.length co22 : Value).ownBlock ∧ some k_ ≠ (.slice Ao17 y115.length co17 : Value).ownBlock ∧ some k_ ≠ (.slice (some ad121) t118.length co19 : Value).ownBlock ∧ some k_ ≠ (.slice Ao39 t125.length co39 : Value).ownBlock ∧ some k_ ≠ (s_.1 : Value).ownBlock ∧ some k_ ≠ (s_.2.1 : Value).ownBlock ∧ some k_ ≠ (s_.2.2 : Value).ownBlock ∧ k_ ≠ gb111) (.slice Ao43 t134.length co43) t134) ∧ (Kd.R k25 25 w' w.heap.size (fun k_ => some k_ ≠ (.slice Ao22 t112.length co22 : Value).ownBlock ∧ some k_ ≠ (.slice Ao17 y115.length co17 : Value).ownBlock ∧ some k_ ≠ (.slice (some ad121) t118.length co19 : Value).ownBlock ∧ some k_ ≠ (.slice Ao39 t125.length co39 : Value).ownBlock ∧ some k_ ≠ (.slice Ao43 t134.length co43 : Value).ownBlock ∧ some k_ ≠ (s_.2.1 : Value).ownBlock ∧ some k_ ≠ (s_.2.2 : Value).ownBlock ∧ k_ ≠ gb111) s_.1 t138) ∧ (Kd.R k25 25 w' w.heap.size (fun k_ => some k_ ≠ (.slice Ao22 t112.length co22 : Value).ownBlock ∧ some k_ ≠ (.slice Ao17 y115.length co17 : Value).ownBlock ∧ some k_ ≠ (.slice (some ad121) t118.length co19 : Value).ownBlock ∧ some k_ ≠ (.slice Ao39 t125.length co39 : Value).ownBlock ∧ some k_ ≠ (.slice Ao43 t134.length co43 : Value).ownBlock ∧ some k_ ≠ (s_.1 : Value).ownBlock ∧ some k_ ≠ (s_.2.2 : Value).ownBlock ∧ k_ ≠ gb111) s_.2.1 y141) ∧ (Kd.R k25 25 w' w.heap.size (fun k_ => some k_ ≠ (.slice Ao22 t112.length co22 : Value).ownBlock ∧ some k_ ≠ (.slice Ao17 y115.length co17 : Value).ownBlock ∧ some k_ ≠ (.slice (some ad121) t118.length co19 : Value).ownBlock ∧ some k_ ≠ (.slice Ao39 t125.length co39 : Value).ownBlock ∧ some k_ ≠ (.slice Ao43 t134.length co43 : Value).ownBlock ∧ some k_ ≠ (s_.1 : Value).ownBlock ∧ some k_ ≠ (s_.2.1 : Value).ownBlock ∧ k_ ≠ gb111) s_.2.2 y147) ∧ (w'.heap[gb111]? = some (.cells #[.string ((rd_T25 t118 0).f0), .string ((rd_T25 t118 0).f1)] 25 (0, 0))) ∧ (Below w.heap.size w w')) ?_ ?_
        rotate_left
        ·intro hJ7_8_12
         refine join_ (σ := Value × Value) 6 #[true, true, true, true, true, true, true, true, true, true, false, true, false, false, false, false, false] (fun s_ => [(42, s_.1), (43, s_.2)]) (fun s_ w' => (w'.cell? ⟨gb111, 0, none⟩ = some (.string ((rd_T25 t118 0).f0)) ∧ w'.cell? ⟨gb111, 1, none⟩ = some (.string ((rd_T25 t118 0).f1))) ∧ (Kd.R k25 25 w' w.heap.size (fun k_ => some k_ ≠ (.slice Ao17 y115.length co17 : Value).ownBlock ∧ some k_ ≠ (.slice (some ad121) t118.length co19 : Value).ownBlock ∧ some k_ ≠ (.slice Ao39 t125.length co39 : Value).ownBlock ∧ some k_ ≠ (.slice Ao43 t134.length co43 : Value).ownBlock ∧ some k_ ≠ (s_.1 : Value).ownBlock ∧ some k_ ≠ (s_.2 : Value).ownBlock ∧ k_ ≠ gb111) (.slice Ao22 t112.length co22) t112) ∧ (Kd.R k25 25 w' w.heap.size (fun k_ => some k_ ≠ (.slice Ao22 t112.length co22 : Value).ownBlock ∧ some k_ ≠ (.slice (some ad121) t118.length co19 : Value).ownBlock ∧ some k_ ≠ (.slice Ao39 t125.length co39 : Value).ownBlock ∧ some k_ ≠ (.slice Ao43 t134.length co43 : Value).ownBlock ∧ some k_ ≠ (s_.1 : Value).ownBlock ∧ some k_ ≠ (s_.2 : Value).ownBlock ∧ k_ ≠ gb111) (.slice Ao17 y115.length co17) y115) ∧ (Kd.R k25 25 w' w.heap.size (fun k_ => some k_ ≠ (.slice Ao22 t112.length co22 : Value).ownBlock ∧ some k_ ≠ (.slice Ao17 y115.length co17 : Value).ownBlock ∧ some k_ ≠ (.slice Ao39 t125.length co39 : Value).ownBlock ∧ some k_ ≠ (.slice Ao43 t134.length co43 : Value).ownBlock ∧ some k_ ≠ (s_.1 : Value).ownBlock ∧ some k_ ≠ (s_.2 : Value).ownBlock ∧ k_ ≠ gb111) (.slice (some ad121) t118.length co19) t118) ∧ (Kd.R k28 28 w' w.heap.size (fun k_ => some k_ ≠ (.slice Ao38 t128.length co38 : Value).ownBlock ∧ some k_ ≠ (.slice Ao40 t131.length co40 : Value).ownBlock) (.slice Ao27 t122.length co27) t122) ∧ (Kd.R k25 25 w' w.heap.size (fun k_ => some k_ ≠ (.slice Ao22 t112.length co22 : Value).ownBlock ∧ some k_ ≠ (.slice Ao17 y115.length co17 : Value).ownBlock ∧ some k_ ≠ (.slice (some ad121) t118.length co19 : Value).ownBlock ∧ some k_ ≠ (.slice Ao43 t134.length co43 : Value).ownBlock ∧ some k_ ≠ (s_.1 : Value).ownBlock ∧ some k_ ≠ (s_.2 : Value).ownBlock ∧ k_ ≠ gb111) (.slice Ao39 t125.length co39) t125) ∧ (Kd.R k28 28 w' w.heap.size (fun k_ => some k_ ≠ (.slice Ao27 t122.length co27 : Value).ownBlock ∧ some k_ ≠ (.slice Ao40 t131.length co40 : Value).ownBlock) (.slice Ao38 t128.length co38) t128) ∧ (Kd.R k28 28 w' w.heap.size (fun k_ => some k_ ≠ (.slice Ao27 t122.length co27 : Value).ownBlock ∧ some k_ ≠ (.slice Ao38 t128.length co38 : Value).ownBlock) (.slice Ao40 t131.length co40) t131) ∧ (Kd.R k25 25 w' w.heap.size (fun k_ => some k_ ≠ (.slice Ao22 t112.length co22 : Value).ownBlock ∧ some k_ ≠ (.slice Ao17 y115.length co17 : Value).ownBlock ∧ some k_ ≠ (.slice (some ad121) t118.length co19 : Value).ownBlock ∧ some k_ ≠ (.slice Ao39 t125.length co39 : Value).ownBlock ∧ some k_ ≠ (s_.1 : Value).ownBlock ∧ some k_ ≠ (s_.2 : Value).ownBlock ∧ k_ ≠ gb111) (.slice Ao43 t134.length co43) t134) ∧ (Kd.R k25 25 w' w.heap.size (fun k_ => some k_ ≠ (.slice Ao22 t112.length co22 : Value).ownBlock ∧ some k_ ≠ (.slice Ao17 y115.length co17 : Value).ownBlock ∧ some k_ ≠ (.slice (some ad121) t118.length co19 : Value).ownBlock ∧ some k_ ≠ (.slice Ao39 t125.length co39 : Value).ownBlock ∧ some k_ ≠ (.slice Ao43 t134.length co43 : Value).ownBlock ∧ some k_ ≠ (s_.2 : Value).ownBlock ∧ k_ ≠ gb111) s_.1 t138) ∧ (Kd.R k25 25 w' w.heap.size (fun k_ => some k_ ≠ (.slice Ao22 t112.length co22 : Value).ownBlock ∧ some k_ ≠ (.slice Ao17 y115.length co17 : Value).ownBlock ∧ some k_ ≠ (.slice (some ad121) t118.length co19 : Value).ownBlock ∧ some k_ ≠ (.slice Ao39 t125.length co39 : Value).ownBlock ∧ some k_ ≠ (.slice Ao43 t134.length co43 : Value).ownBlock ∧ some k_ ≠ (s_.1 : Value).ownBlock ∧ k_ ≠ gb111) s_.2 y141) ∧ (w'.heap[gb111]? = some (.cells #[.string ((rd_T25 t118 0).f0), .string ((rd_T25 t118 0).f1)] 25 (0, 0))) ∧ (Below w.heap.size w w')) ?_ ?_
         rotate_left
         ·intro hJ7_8
          refine join_ (σ := Value × Value) 6 #[true, true, true, true, true, true, true, true, false, true, false, true, true, false, false, false, false] (fun s_ => [(42, s_.1), (47, s_.2)]) (fun s_ w' => (w'.cell? ⟨gb111, 0, none⟩ = some (.string ((rd_T25 t118 0).f0)) ∧ w'.cell? ⟨gb111, 1, none⟩ = some (.string ((rd_T25 t118 0).f1))) ∧ (Kd.R k25 25 w' w.heap.size (fun k_ => some k_ ≠ (.slice Ao17 y115.length co17 : Value).ownBlock ∧ some k_ ≠ (.slice (some ad121) t118.length co19 : Value).ownBlock ∧ some k_ ≠ (.slice Ao39 t125.length co39 : Value).ownBlock ∧ some k_ ≠ (.slice Ao43 t134.length co43 : Value).ownBlock ∧ some k_ ≠ (s_.1 : Value).ownBlock ∧ some k_ ≠ (s_.2 : Value).ownBlock ∧ k_ ≠ gb111) (.slice Ao22 t112.length co22) t112) ∧ (Kd.R k25 25 w' w.heap.size (fun k_ => some k_ ≠ (.slice Ao22 t112.length co22 : Value).ownBlock ∧ some k_ ≠ (.slice (some ad121) t118.length co19 : Value).ownBlock ∧ some k_ ≠ (.slice Ao39 t125.length co39 : Value).ownBlock ∧ some k_ ≠ (.slice Ao43 t134.length co43 : Value).ownBlock ∧ some k_ ≠ (s_.1 : Value).ownBlock ∧ some k_ ≠ (s_.2 : Value).ownBlock ∧ k_ ≠ gb111) (.slice Ao17 y115.length co17) y115) ∧ (Kd.R k25 25 w' w.heap.size (fun k_ => some k_ ≠ (.slice Ao22 t112.length co22 : Value).ownBlock ∧ some k_ ≠ (.slice Ao17 y115.length co17 : Value).ownBlock ∧ some k_ ≠ (.slice Ao39 t125.length co39 : Value).ownBlock ∧ some k_ ≠ (.slice Ao43 t134.length co43 : Value).ownBlock ∧ some k_ ≠ (s_.1 : Value).ownBlock ∧ some k_ ≠ (s_.2 : Value).ownBlock ∧ k_ ≠ gb111) (.slice (some ad121) t118.length co19) t118) ∧ (Kd.R k28 28 w' w.heap.size (fun k_ => some k_ ≠ (.slice Ao38 t128.length co38 : Value).ownBlock ∧ some k_ ≠ (.slice Ao40 t131.length co40 : Value).ownBlock) (.slice Ao27 t122.length co27) t122) ∧ (Kd.R k25 25 w' w.heap.size (fun k_ => some k_ ≠ (.slice Ao22 t112.length co22 : Value).ownBlock ∧ some k_ ≠ (.slice Ao17 y115.length co17 : Value).ownBlock ∧ some k_ ≠ (.slice (some ad121) t118.length co19 : Value).ownBlock ∧ some k_ ≠ (.slice Ao43 t134.length co43 : Value).ownBlock ∧ some k_ ≠ (s_.1 : Value).ownBlock ∧ some k_ ≠ (s_.2 : Value).ownBlock ∧ k_ ≠ gb111) (.slice Ao39 t125.length co39) t125) ∧ (Kd.R k28 28 w' w.heap.size (fun k_ => some k_ ≠ (.slice Ao27 t122.length co27 : Value).ownBlock ∧ some k_ ≠ (.slice Ao40 t131.length co40 : Value).ownBlock) (.slice Ao38 t128.length co38) t128) ∧ (Kd.R k28 28 w' w.heap.size (fun k_ => some k_ ≠ (.slice Ao27 t122.length co27 : Value).ownBlock ∧ some k_ ≠ (.slice Ao38 t128.length co38 : Value).ownBlock) (.slice Ao40 t131.length co40) t131) ∧ (Kd.R k25 25 w' w.heap.size (fun k_ => some k_ ≠ (.slice Ao22 t112.length co22 : Value).ownBlock ∧ some k_ ≠ (.slice Ao17 y115.length co17 : Value).ownBlock ∧ some k_ ≠ (.slice (some ad121) t118.length co19 : Value).ownBlock ∧ some k_ ≠ (.slice Ao39 t125.length co39 : Value).ownBlock ∧ some k_ ≠ (s_.1 : Value).ownBlock ∧ some k_ ≠ (s_.2 : Value).ownBlock ∧ k_ ≠ gb111) (.slice Ao43 t134.length co43) t134) ∧ (Kd.R k25 25 w' w.heap.size (fun k_ => some k_ ≠ (.slice Ao22 t112.length co22 : Value).ownBlock ∧ some k_ ≠ (.slice Ao17 y115.length co17 : Value).ownBlock ∧ some k_ ≠ (.slice (some ad121) t118.length co19 : Value).ownBlock ∧ some k_ ≠ (.slice Ao39 t125.length co39 : Value).ownBlock ∧ some k_ ≠ (.slice Ao43 t134.length co43 : Value).ownBlock ∧ some k_ ≠ (s_.2 : Value).ownBlock ∧ k_ ≠ gb111) s_.1 t138) ∧ (Kd.R k25 25 w' w.heap.size (fun k_ => some k_ ≠ (.slice Ao22 t112.length co22 : Value).ownBlock ∧ some k_ ≠ (.slice Ao17 y115.length co17 : Value).ownBlock ∧ some k_ ≠ (.slice (some ad121) t118.length co19 : Value).ownBlock ∧ some k_ ≠ (.slice Ao39 t125.length co39 : Value).ownBlock ∧ some k_ ≠ (.slice Ao43 t134.length co43 : Value).ownBlock ∧ some k_ ≠ (s_.1 : Value).ownBlock ∧ k_ ≠ gb111) s_.2 y147) ∧ (w'.heap[gb111]? = some (.cells #[.string ((rd_T25 t118 0).f0), .string ((rd_T25 t118 0).f1)] 25 (0, 0))) ∧ (Below w.heap.size w w')) ?_ ?_
          rotate_left
          ·intro hJ7_12
           refine join_ (σ := Value × Value) 6 #[true, true, true, true, true, true, true, false, true, true, false, true, true, false, false, false, false] (fun s_ => [(43, s_.1), (47, s_.2)]) (fun s_ w' => (w'.cell? ⟨gb111, 0, none⟩ = some (.string ((rd_T25 t118 0).f0)) ∧ w'.cell? ⟨gb111, 1, none⟩ = some (.string ((rd_T25 t118 0).f1))) ∧ (Kd.R k25 25 w' w.heap.size (fun k_ => some k_ ≠ (.slice Ao17 y115.length co17 : Value).ownBlock ∧ some k_ ≠ (.slice (some ad121) t118.length co19 : Value).ownBlock ∧ some k_ ≠ (.slice Ao39 t125.length co39 : Value).ownBlock ∧ some k_ ≠ (.slice Ao43 t134.length co43 : Value).ownBlock ∧ some k_ ≠ (s_.1 : Value).ownBlock ∧ some k_ ≠ (s_.2 : Value).ownBlock ∧ k_ ≠ gb111) (.slice Ao22 t112.length co22) t112) ∧ (Kd.R k25 25 w' w.heap.size (fun k_ => some k_ ≠ (.slice Ao22 t112.length co22 : Value).ownBlock ∧ some k_ ≠ (.slice (some ad121) t118.length co19 : Value).ownBlock ∧ some k_ ≠ (.slice Ao39 t125.length co39 : Value).ownBlock ∧ some k_ ≠ (.slice Ao43 t134.length co43 : Value).ownBlock ∧ some k_ ≠ (s_.1 : Value).ownBlock ∧ some k_ ≠ (s_.2 : Value).ownBlock ∧ k_ ≠ gb111) (.slice Ao17 y115.length co17) y115) ∧ (Kd.R k25 25 w' w.heap.size (fun k_ => some k_ ≠ (.slice Ao22 t112.length co22 : Value).ownBlock ∧ some k_ ≠ (.slice Ao17 y115.length co17 : Value).ownBlock ∧ some k_ ≠ (.slice Ao39 t125.length co39 : Value).ownBlock ∧ some k_ ≠ (.slice Ao43 t134.length co43 : Value).ownBlock ∧ some k_ ≠ (s_.1 : Value).ownBlock ∧ some k_ ≠ (s_.2 : Value).ownBlock ∧ k_ ≠ gb111) (.slice (some ad121) t118.length co19) t118) ∧ (Kd.R k28 28 w' w.heap.size (fun k_ => some k_ ≠ (.slice Ao38 t128.length co38 : Value).ownBlock ∧ some k_ ≠ (.slice Ao40 t131.length co40 : Value).ownBlock) (.slice Ao27 t122.length co27) t122) ∧ (Kd.R k25 25 w' w.heap.size (fun k_ => some k_ ≠ (.slice Ao22 t112.length co22 : Value).ownBlock ∧ some k_ ≠ (.slice Ao17 y115.length co17 : Value).ownBlock ∧ some k_ ≠ (.slice (some ad121) t118.length co19 : Value).ownBlock ∧ some k_ ≠ (.slice Ao43 t134.length co43 : Value).ownBlock ∧ some k_ ≠ (s_.1 : Value).ownBlock ∧ some k_ ≠ (s_.2 : Value).ownBlock ∧ k_ ≠ gb111) (.slice Ao39 t125.length co39) t125) ∧ (Kd.R k28 28 w' w.heap.size (fun k_ => some k_ ≠ (.slice Ao27 t122.length co27 : Value).ownBlock ∧ some k_ ≠ (.slice Ao40 t131.length co40 : Value).ownBlock) (.slice Ao38 t128.length co38) t128) ∧ (Kd.R k28 28 w' w.heap.size (fun k_ => some k_ ≠ (.slice Ao27 t122.length co27 : Value).ownBlock ∧ some k_ ≠ (.slice Ao38 t128.length co38 : Value).ownBlock) (.slice Ao40 t131.length co40) t131) ∧ (Kd.R k25 25 w' w.heap.size (fun k_ => some k_ ≠ (.slice Ao22 t112.length co22 : Value).ownBlock ∧ some k_ ≠ (.slice Ao17 y115.length co17 : Value).ownBlock ∧ some k_ ≠ (.slice (some ad121) t118.length co19 : Value).ownBlock ∧ some k_ ≠ (.slice Ao39 t125.length co39 : Value).ownBlock ∧ some k_ ≠ (s_.1 : Value).ownBlock ∧ some k_ ≠ (s_.2 : Value).ownBlock ∧ k_ ≠ gb111) (.slice Ao43 t134.length co43) t134) ∧ (Kd.R k25 25 w' w.heap.size (fun k_ => some k_ ≠ (.slice Ao22 t112.length co22 : Value).ownBlock ∧ some k_ ≠ (.slice Ao17 y115.length co17 : Value).ownBlock ∧ some k_ ≠ (.slice (some ad121) t118.length co19 : Value).ownBlock ∧ some k_ ≠ (.slice Ao39 t125.length co39 : Value).ownBlock ∧ some k_ ≠ (.slice Ao43 t134.length co43 : Value).ownBlock ∧ some k_ ≠ (s_.2 : Value).ownBlock ∧ k_ ≠ gb111) s_.1 y141) ∧ (Kd.R k25 25 w' w.heap.size (fun k_ => some k_ ≠ (.slice Ao22 t112.length co22 : Value).ownBlock ∧ some k_ ≠ (.slice Ao17 y115.length co17 : Value).ownBlock ∧ some k_ ≠ (.slice (some ad121) t118.length co19 : Value).ownBlock ∧ some k_ ≠ (.slice Ao39 t125.length co39 : Value).ownBlock ∧ some k_ ≠ (.slice Ao43 t134.length co43 : Value).ownBlock ∧ some k_ ≠ (s_.1 : Value).ownBlock ∧ k_ ≠ gb111) s_.2 y147) ∧ (w'.heap[gb111]? = some (.cells #[.string ((rd_T25 t118 0).f0), .string ((rd_T25 t118 0).f1)] 25 (0, 0))) ∧ (Below w.heap.size w w')) ?_ ?_
           rotate_left
           ·intro hJ8_12
            refine join_ (σ := Value) 7 #[true, true, true, true, true, true, true, true, false, true, false, true, false, false, false, false, false] (fun s_ => [(42, s_)]) (fun s_ w' => (w'.cell? ⟨gb111, 0, none⟩ = some (.string ((rd_T25 t118 0).f0)) ∧ w'.cell? ⟨gb111, 1, none⟩ = some (.string ((rd_T25 t118 0).f1))) ∧ (Kd.R k25 25 w' w.heap.size (fun k_ => some k_ ≠ (.slice Ao17 y115.length co17 : Value).ownBlock ∧ some k_ ≠ (.slice (some ad121) t118.length co19 : Value).ownBlock ∧ some k_ ≠ (.slice Ao39 t125.length co39 : Value).ownBlock ∧ some k_ ≠ (.slice Ao43 t134.length co43 : Value).ownBlock ∧ some k_ ≠ (s_ : Value).ownBlock ∧ k_ ≠ gb111) (.slice Ao22 t112.length co22) t112) ∧ (Kd.R k25 25 w' w.heap.size (fun k_ => some k_ ≠ (.slice Ao22 t112.length co22 : Value).ownBlock ∧ some k_ ≠ (.slice (some ad121) t118.length co19 : Value).ownBlock ∧ some k_ ≠ (.slice Ao39 t125.length co39 : Value).ownBlock ∧ some k_ ≠ (.slice Ao43 t134.length co43 : Value).ownBlock ∧ some k_ ≠ (s_ : Value).ownBlock ∧ k_ ≠ gb111) (.slice Ao17 y115.length co17) y115) ∧ (Kd.R k25 25 w' w.heap.size (fun k_ => some k_ ≠ (.slice Ao22 t112.length co22 : Value).ownBlock ∧ some k_ ≠ (.slice Ao17 y115.length co17 : Value).ownBlock ∧ some k_ ≠ (.slice Ao39 t125.length co39 : Value).ownBlock ∧ some k_ ≠ (.slice Ao43 t134.length co43 : Value).ownBlock ∧ some k_ ≠ (s_ : Value).ownBlock ∧ k_ ≠ gb111) (.slice (some ad121) t118.length co19) t118) ∧ (Kd.R k28 28 w' w.heap.size (fun k_ => some k_ ≠ (.slice Ao38 t128.length co38 : Value).ownBlock ∧ some k_ ≠ (.slice Ao40 t131.length co40 : Value).ownBlock) (.slice Ao27 t122.length co27) t122) ∧ (Kd.R k25 25 w' w.heap.size (fun k_ => some k_ ≠ (.slice Ao22 t112.length co22 : Value).ownBlock ∧ some k_ ≠ (.slice Ao17 y115.length co17 : Value).ownBlock ∧ some k_ ≠ (.slice (some ad121) t118.length co19 : Value).ownBlock ∧ some k_ ≠ (.slice Ao43 t134.length co43 : Value).ownBlock ∧ some k_ ≠ (s_ : Value).ownBlock ∧ k_ ≠ gb111) (.slice Ao39 t125.length co39) t125) ∧ (Kd.R k28 28 w' w.heap.size (fun k_ => some k_ ≠ (.slice Ao27 t122.length co27 : Value).ownBlock ∧ some k_ ≠ (.slice Ao40 t131.length co40 : Value).ownBlock) (.slice Ao38 t128.length co38) t128) ∧ (Kd.R k28 28 w' w.heap.size (fun k_ => some k_ ≠ (.slice Ao27 t122.length co27 : Value).ownBlock ∧ some k_ ≠ (.slice Ao38 t128.length co38 : Value).ownBlock) (.slice Ao40 t131.length co40) t131) ∧ (Kd.R k25 25 w' w.heap.size (fun k_ => some k_ ≠ (.slice Ao22 t112.length co22 : Value).ownBlock ∧ some k_ ≠ (.slice Ao17 y115.length co17 : Value).ownBlock ∧ some k_ ≠ (.slice (some ad121) t118.length co19 : Value).ownBlock ∧ some k_ ≠ (.slice Ao39 t125.length co39 : Value).ownBlock ∧ some k_ ≠ (s_ : Value).ownBlock ∧ k_ ≠ gb111) (.slice Ao43 t134.length co43) t134) ∧ (Kd.R k25 25 w' w.heap.size (fun k_ => some k_ ≠ (.slice Ao22 t112.length co22 : Value).ownBlock ∧ some k_ ≠ (.slice Ao17 y115.length co17 : Value).ownBlock ∧ some k_ ≠ (.slice (some ad121) t118.length co19 : Value).ownBlock ∧ some k_ ≠ (.slice Ao39 t125.length co39 : Value).ownBlock ∧ some k_ ≠ (.slice Ao43 t134.length co43 : Value).ownBlock ∧ k_ ≠ gb111) s_ t138) ∧ (w'.heap[gb111]? = some (.cells #[.string ((rd_T25 t118 0).f0), .string ((rd_T25 t118 0).f1)] 25 (0, 0))) ∧ (Below w.heap.size w w')) ?_ ?_
            rotate_left
            ·intro hJ7
             refine join_ (σ := Value) 7 #[true, true, true, true, true, true, true, false, true, true, false, true, false, false, false, false, false] (fun s_ => [(43, s_)]) (fun s_ w' => (w'.cell? ⟨gb111, 0, none⟩ = some (.string ((rd_T25 t118 0).f0)) ∧ w'.cell? ⟨gb111, 1, none⟩ = some (.string ((rd_T25 t118 0).f1))) ∧ (Kd.R k25 25 w' w.heap.size (fun k_ => some k_ ≠ (.slice Ao17 y115.length co17 : Value).ownBlock ∧ some k_ ≠ (.slice (some ad121) t118.length co19 : Value).ownBlock ∧ some k_ ≠ (.slice Ao39 t125.length co39 : Value).ownBlock ∧ some k_ ≠ (.slice Ao43 t134.length co43 : Value).ownBlock ∧ some k_ ≠ (s_ : Value).ownBlock ∧ k_ ≠ gb111) (.slice Ao22 t112.length co22) t112) ∧ (Kd.R k25 25 w' w.heap.size (fun k_ => some k_ ≠ (.slice Ao22 t112.length co22 : Value).ownBlock ∧ some k_ ≠ (.slice (some ad121) t118.length co19 : Value).ownBlock ∧ some k_ ≠ (.slice Ao39 t125.length co39 : Value).ownBlock ∧ some k_ ≠ (.slice Ao43 t134.length co43 : Value).ownBlock ∧ some k_ ≠ (s_ : Value).ownBlock ∧ k_ ≠ gb111) (.slice Ao17 y115.length co17) y115) ∧ (Kd.R k25 25 w' w.heap.size (fun k_ => some k_ ≠ (.slice Ao22 t112.length co22 : Value).ownBlock ∧ some k_ ≠ (.slice Ao17 y115.length co17 : Value).ownBlock ∧ some k_ ≠ (.slice Ao39 t125.length co39 : Value).ownBlock ∧ some k_ ≠ (.slice Ao43 t134.length co43 : Value).ownBlock ∧ some k_ ≠ (s_ : Value).ownBlock ∧ k_ ≠ gb111) (.slice (some ad121) t118.length co19) t118) ∧ (Kd.R k28 28 w' w.heap.size (fun k_ => some k_ ≠ (.slice Ao38 t128.length co38 : Value).ownBlock ∧ some k_ ≠ (.slice Ao40 t131.length co40 : Value).ownBlock) (.slice Ao27 t122.length co27) t122) ∧ (Kd.R k25 25 w' w.heap.size (fun k_ => some k_ ≠ (.slice Ao22 t112.length co22 : Value).ownBlock ∧ some k_ ≠ (.slice Ao17 y115.length co17 : Value).ownBlock ∧ some k_ ≠ (.slice (some ad121) t118.length co19 : Value).ownBlock ∧ some k_ ≠ (.slice Ao43 t134.length co43 : Value).ownBlock ∧ some k_ ≠ (s_ : Value).ownBlock ∧ k_ ≠ gb111) (.slice Ao39 t125.length co39) t125) ∧ (Kd.R k28 28 w' w.heap.size (fun k_ => some k_ ≠ (.slice Ao27 t122.length co27 : Value).ownBlock ∧ some k_ ≠ (.slice Ao40 t131.length co40 : Value).ownBlock) (.slice Ao38 t128.length co38) t128) ∧ (Kd.R k28 28 w' w.heap.size (fun k_ => some k_ ≠ (.slice Ao27 t122.length co27 : Value).ownBlock ∧ some k_ ≠ (.slice Ao38 t128.length co38 : Value).ownBlock) (.slice Ao40 t131.length co40) t131) ∧ (Kd.R k25 25 w' w.heap.size (fun k_ => some k_ ≠ (.slice Ao22 t112.length co22 : Value).ownBlock ∧ some k_ ≠ (.slice Ao17 y115.length co17 : Value).ownBlock ∧ some k_ ≠ (.slice (some ad121) t118.length co19 : Value).ownBlock ∧ some k_ ≠ (.slice Ao39 t125.length co39 : Value).ownBlock ∧ some k_ ≠ (s_ : Value).ownBlock ∧ k_ ≠ gb111) (.slice Ao43 t134.length co43) t134) ∧ (Kd.R k25 25 w' w.heap.size (fun k_ => some k_ ≠ (.slice Ao22 t112.length co22 : Value).ownBlock ∧ some k_ ≠ (.slice Ao17 y115.length co17 : Value).ownBlock ∧ some k_ ≠ (.slice (some ad121) t118.length co19 : Value).ownBlock ∧ some k_ ≠ (.slice Ao39 t125.length co39 : Value).ownBlock ∧ some k_ ≠ (.slice Ao43 t134.length co43 : Value).ownBlock ∧ k_ ≠ gb111) s_ y141) ∧ (w'.heap[gb111]? = some (.cells #[.string ((rd_T25 t118 0).f0), .string ((rd_T25 t118 0).f1)] 25 (0, 0))) ∧ (Below w.heap.size w w')) ?_ ?_
             rotate_left
             ·intro hJ8
              refine join_ (σ := Value) 7 #[true, true, true, true, true, true, true, false, false, true, false, true, true, false, false, false, false] (fun s_ => [(47, s_)]) (fun s_ w' => (w'.cell? ⟨gb111, 0, none⟩ = some (.string ((rd_T25 t118 0).f0)) ∧ w'.cell? ⟨gb111, 1, none⟩ = some (.string ((rd_T25 t118 0).f1))) ∧ (Kd.R k25 25 w' w.heap.size (fun k_ => some k_ ≠ (.slice Ao17 y115.length co17 : Value).ownBlock ∧ some k_ ≠ (.slice (some ad121) t118.length co19 : Value).ownBlock ∧ some k_ ≠ (.slice Ao39 t125.length co39 : Value).ownBlock ∧ some k_ ≠ (.slice Ao43 t134.length co43 : Value).ownBlock ∧ some k_ ≠ (s_ : Value).ownBlock ∧ k_ ≠ gb111) (.slice Ao22 t112.length co22) t112) ∧ (Kd.R k25 25 w' w.heap.size (fun k_ => some k_ ≠ (.slice Ao22 t112.length co22 : Value).ownBlock ∧ some k_ ≠ (.slice (some ad121) t118.length co19 : Value).ownBlock ∧ some k_ ≠ (.slice Ao39 t125.length co39 : Value).ownBlock ∧ some k_ ≠ (.slice Ao43 t134.length co43 : Value).ownBlock ∧ some k_ ≠ (s_ : Value).ownBlock ∧ k_ ≠ gb111) (.slice Ao17 y115.length co17) y115) ∧ (Kd.R k25 25 w' w.heap.size (fun k_ => some k_ ≠ (.slice Ao22 t112.length co22 : Value).ownBlock ∧ some k_ ≠ (.slice Ao17 y115.length co17 : Value).ownBlock ∧ some k_ ≠ (.slice Ao39 t125.length co39 : Value).ownBlock ∧ some k_ ≠ (.slice Ao43 t134.length co43 : Value).ownBlock ∧ some k_ ≠ (s_ : Value).ownBlock ∧ k_ ≠ gb111) (.slice (some ad121) t118.length co19) t118) ∧ (Kd.R k28 28 w' w.heap.size (fun k_ => some k_ ≠ (.slice Ao38 t128.length co38 : Value).ownBlock ∧ some k_ ≠ (.slice Ao40 t131.length co40 : Value).ownBlock) (.slice Ao27 t122.length co27) t122) ∧ (Kd.R k25 25 w' w.heap.size (fun k_ => some k_ ≠ (.slice Ao22 t112.length co22 : Value).ownBlock ∧ some k_ ≠ (.slice Ao17 y115.length co17 : Value).ownBlock ∧ some k_ ≠ (.slice (some ad121) t118.length co19 : Value).ownBlock ∧ some k_ ≠ (.slice Ao43 t134.length co43 : Value).ownBlock ∧ some k_ ≠ (s_ : Value).ownBlock ∧ k_ ≠ gb111) (.slice Ao39 t125.length co39) t125) ∧ (Kd.R k28 28 w' w.heap.size (fun k_ => some k_ ≠ (.slice Ao27 t122.length co27 : Value).ownBlock ∧ some k_ ≠ (.slice Ao40 t131.length co40 : Value).ownBlock) (.slice Ao38 t128.length co38) t128) ∧ (Kd.R k28 28 w' w.heap.size (fun k_ => some k_ ≠ (.slice Ao27 t122.length co27 : Value).ownBlock ∧ some k_ ≠ (.slice Ao38 t128.length co38 : Value).ownBlock) (.slice Ao40 t131.length co40) t131) ∧ (Kd.R k25 25 w' w.heap.size (fun k_ => some k_ ≠ (.slice Ao22 t112.length co22 : Value).ownBlock ∧ some k_ ≠ (.slice Ao17 y115.length co17 : Value).ownBlock ∧ some k_ ≠ (.slice (some ad121) t118.length co19 : Value).ownBlock ∧ some k_ ≠ (.slice Ao39 t125.length co39 : Value).ownBlock ∧ some k_ ≠ (s_ : Value).ownBlock ∧ k_ ≠ gb111) (.slice Ao43 t134.length co43) t134) ∧ (Kd.R k25 25 w' w.heap.size (fun k_ => some k_ ≠ (.slice Ao22 t112.length co22 : Value).ownBlock ∧ some k_ ≠ (.slice Ao17 y115.length co17 : Value).ownBlock ∧ some k_ ≠ (.slice (some ad121) t118.length co19 : Value).ownBlock ∧ some k_ ≠ (.slice Ao39 t125.length co39 : Value).ownBlock ∧ some k_ ≠ (.slice Ao43 t134.length co43 : Value).ownBlock ∧ k_ ≠ gb111) s_ y147) ∧ (w'.heap[gb111]? = some (.cells #[.string ((rd_T25 t118 0).f0), .string ((rd_T25 t118 0).f1)] 25 (0, 0))) ∧ (Below w.heap.size w w')) ?_ ?_
              rotate_left
              ·intro hJ12
               refine three_ (i := 7) (j := 8) (k := 12) (Ni := some 42) (Nj := some 43) (Nk := some 47) #[true, true, true, true, true, true, true, true, false, true, false, true, false, false, false, false, false] #[true, true, true, true, true, true, true, false, true, true, false, true, false, false, false, false, false] #[true, true, true, true, true, true, true, false, false, true, false, true, true, false, false, false, false] rfl rfl rfl rfl rfl rfl (three_of HT_.out (by kernel_rfl)) (by decide) (by decide) (by decide) (fun K hK => ?_) (fun K hK => ?_) (fun K hK => ?_)
               ·skip
                refine goes_ Try.func25 (by kernel_rfl) rfl #[.slice Ao40 t131.length co40] (by rfl) rfl rfl (by (try simp only [List.map_toArray, List.map_cons, List.map_nil]); first | done | rfl | (simp only [List.length_drop, List.length_take]; rfl)) ?_
                with_reducible refine (PA.bulletinlaw09_Of.calls k _ _ t131 t138 _ ?side1 ?side2 A34.out).mono ?_
                (case side1 => repeat (first | exact (Kd.R_reads' HO133.out).2.2 | (with_reducible refine Kd.C_alloc ?_ _) | (with_reducible refine Kd.C_drewN ?_ _) | (with_reducible refine Kd.C_drew ?_)))
                (case side2 => exact (Kd.R_reads' HO133.out).2.1)
                rintro e w44 ⟨v139, rfl, ho0, hb⟩
                refine ⟨_, rfl, ?_⟩
                have n0_ := as0 (Kd.R_elder' (by (with_reducible repeat (first | apply Kd.R_alloc | apply Kd.R_drewN | apply Kd.R_drew)); exact HO114.out) (Kd.R_base ho0) hb)
                have n1_ := as0 (Kd.R_elder' (by (with_reducible repeat (first | apply Kd.R_alloc | apply Kd.R_drewN | apply Kd.R_drew)); exact HO117.out) (Kd.R_base ho0) hb)
                have n2_ := as0 (Kd.R_elder' (by (with_reducible repeat (first | apply Kd.R_alloc | apply Kd.R_drewN | apply Kd.R_drew)); exact HO120.out) (Kd.R_base ho0) hb)
                have n3_ := as0 (Kd.R_below (by (with_reducible repeat (first | apply Kd.R_alloc | apply Kd.R_drewN | apply Kd.R_drew)); exact HO124.out) hb)
                have n4_ := as0 (Kd.R_elder' (by (with_reducible repeat (first | apply Kd.R_alloc | apply Kd.R_drewN | apply Kd.R_drew)); exact HO127.out) (Kd.R_base ho0) hb)
                have n5_ := as0 (Kd.R_below (by (with_reducible repeat (first | apply Kd.R_alloc | apply Kd.R_drewN | apply Kd.R_drew)); exact HO130.out) hb)
                have n6_ := as0 (Kd.R_below (by (with_reducible repeat (first | apply Kd.R_alloc | apply Kd.R_drewN | apply Kd.R_drew)); exact HO133.out) hb)
                have n7_ := as0 (Kd.R_elder' (by (with_reducible repeat (first | apply Kd.R_alloc | apply Kd.R_drewN | apply Kd.R_drew)); exact HO136.out) (Kd.R_base ho0) hb)
                have n8_ := as0 (Kd.R_lower (Kd.R_newB (Kd.R_new' (Kd.R_new' (Kd.R_new' (Kd.R_new' (Kd.R_new' ho0 (Kd.R_lt (by (with_reducible repeat (first | apply Kd.R_alloc | apply Kd.R_drewN | apply Kd.R_drew)); exact HO114.out))) (Kd.R_lt (by (with_reducible repeat (first | apply Kd.R_alloc | apply Kd.R_drewN | apply Kd.R_drew)); exact HO117.out))) (Kd.R_lt (by (with_reducible repeat (first | apply Kd.R_alloc | apply Kd.R_drewN | apply Kd.R_drew)); exact HO120.out))) (Kd.R_lt (by (with_reducible repeat (first | apply Kd.R_alloc | apply Kd.R_drewN | apply Kd.R_drew)); exact HO127.out))) (Kd.R_lt (by (with_reducible repeat (first | apply Kd.R_alloc | apply Kd.R_drewN | apply Kd.R_drew)); exact HO136.out))) (g := gb111) (o := .cells #[.string ((rd_T25 t118 0).f0), .string ((rd_T25 t118 0).f1)] 25 (0, 0)) (by (with_reducible repeat (first | refine blk_drewN ?_ _ | refine blk_drew ?_ | refine blk_alloc ?_ _)); exact BK111.out)) (below_size (by repeat (first | (with_reducible first | exact HB.out | apply below_alloc | apply pw_below_drewN | apply below_drew1 | refine below_set ?_ GE111.out) | exact HB.out))))
                have n9_ := as0 (blk_below (g := gb111) (o := .cells #[.string ((rd_T25 t118 0).f0), .string ((rd_T25 t118 0).f1)] 25 (0, 0)) (by (with_reducible repeat (first | refine blk_drewN ?_ _ | refine blk_drew ?_ | refine blk_alloc ?_ _)); exact BK111.out) hb)
                have n10_ := as0 (below_step (by repeat (first | (with_reducible first | exact HB.out | apply below_alloc | apply pw_below_drewN | apply below_drew1 | refine below_set ?_ GE111.out) | exact HB.out)) hb)
                clear HO114
                clear HO117
                clear HO120
                clear HO124
                clear HO127
                clear HO130
                clear HO133
                clear HO136
                clear BK111
                clear HB
                have HO114 := n0_
                have HO117 := n1_
                have HO120 := n2_
                have HO124 := n3_
                have HO127 := n4_
                have HO130 := n5_
                have HO133 := n6_
                have HO136 := n7_
                have HO140 := n8_
                have BK111 := n9_
                have HB := n10_
                clear n0_ n1_ n2_ n3_ n4_ n5_ n6_ n7_ n8_ n9_ n10_
                refine hK.out _ _ ⟨(blk_cell BK111.out 0).trans rfl, (blk_cell BK111.out 1).trans rfl⟩ (fun hHeld => ?_)
                clear hK K
                refine norm_ (a' := ?_) ?_ ?_
                rotate_left
                ·show Act.put _ (some 42) _ = _
                 simp only [Act.put, List.setIfInBounds_toArray, List.set_cons_zero, List.set_cons_succ, i64_w, i32_w]
                 rfl
                exact norm_ (by first | (simp only [putAll, Act.put, List.setIfInBounds_toArray, List.set_cons_zero, List.set_cons_succ]; done) | (simp only [putAll, Act.put, List.setIfInBounds_toArray, List.set_cons_zero, List.set_cons_succ]; rfl)) (hJ7 (v139) _ ⟨hHeld, (by (with_reducible repeat (first | apply Kd.R_alloc | apply Kd.R_drewN | apply Kd.R_drew)); exact Kd.R_mono HO114.out (fun _ hk => ⟨hk.1.1.1.1.1, ⟨hk.1.1.1.2, ⟨hk.1.1.2, ⟨hk.1.2, ⟨hk.2, hk.1.1.1.1.2⟩⟩⟩⟩⟩)), (by (with_reducible repeat (first | apply Kd.R_alloc | apply Kd.R_drewN | apply Kd.R_drew)); exact Kd.R_mono HO117.out (fun _ hk => ⟨hk.1.1.1.1.1, ⟨hk.1.1.1.2, ⟨hk.1.1.2, ⟨hk.1.2, ⟨hk.2, hk.1.1.1.1.2⟩⟩⟩⟩⟩)), (by (with_reducible repeat (first | apply Kd.R_alloc | apply Kd.R_drewN | apply Kd.R_drew)); exact Kd.R_mono HO120.out (fun _ hk => ⟨hk.1.1.1.1.1.2, ⟨hk.1.1.1.1.2, ⟨hk.1.1.2, ⟨hk.1.2, ⟨hk.2, hk.1.1.1.2⟩⟩⟩⟩⟩)), (by (with_reducible repeat (first | apply Kd.R_alloc | apply Kd.R_drewN | apply Kd.R_drew)); exact Kd.R_mono HO124.out (fun _ hk => ⟨hk.1.2, hk.2⟩)), (by (with_reducible repeat (first | apply Kd.R_alloc | apply Kd.R_drewN | apply Kd.R_drew)); exact Kd.R_mono HO127.out (fun _ hk => ⟨hk.1.1.1.1.1.2, ⟨hk.1.1.1.1.2, ⟨hk.1.1.1.2, ⟨hk.1.2, ⟨hk.2, hk.1.1.2⟩⟩⟩⟩⟩)), (by (with_reducible repeat (first | apply Kd.R_alloc | apply Kd.R_drewN | apply Kd.R_drew)); exact Kd.R_mono HO130.out (fun _ hk => ⟨hk.1.2, hk.2⟩)), (by (with_reducible repeat (first | apply Kd.R_alloc | apply Kd.R_drewN | apply Kd.R_drew)); exact Kd.R_mono HO133.out (fun _ hk => ⟨hk.1.2, hk.2⟩)), (by (with_reducible repeat (first | apply Kd.R_alloc | apply Kd.R_drewN | apply Kd.R_drew)); exact Kd.R_mono HO136.out (fun _ hk => ⟨hk.1.1.1.1.1.2, ⟨hk.1.1.1.1.2, ⟨hk.1.1.1.2, ⟨hk.1.1.2, ⟨hk.2, hk.1.2⟩⟩⟩⟩⟩)), (by (with_reducible repeat (first | apply Kd.R_alloc | apply Kd.R_drewN | apply Kd.R_drew)); exact Kd.R_mono HO140.out (fun _ hk => ⟨hk.1.1.1.1.1.2, ⟨hk.1.1.1.1.2, ⟨hk.1.1.1.2, ⟨hk.1.1.2, ⟨hk.1.2, hk.2⟩⟩⟩⟩⟩)), BK111.out, HB.out⟩)
               ·skip
                refine Kd.R_lit_step k25 _ 25 ?hg (N := 43) ?hd (xs := ([] : List (S25))) (inner := []) (ok := fun _ => True) (okp := fun _ => True) ?hr ?hp (fun _ hk => hk) trivial (Below.refl _ _) (Nat.le_refl _) (by simp) ?_; (case hd => rfl); (case hg => rfl); (case hr => first | (go_simp; done) | (go_simp; rfl)); (case hp => exact (Reps.none _ _))
                intro v142 w44 ho45 hb hg_ hnew_
                clear hg_ hnew_
                (first | rw [← Ny141.out] at ho45 | (simp only [Int.reduceToNat] at ho45; rw [← Ny141.out] at ho45))
                have n0_ := as0 (Kd.R_elder' (by (with_reducible repeat (first | apply Kd.R_alloc | apply Kd.R_drewN | apply Kd.R_drew)); exact HO114.out) (Kd.R_base ho45) hb)
                have n1_ := as0 (Kd.R_elder' (by (with_reducible repeat (first | apply Kd.R_alloc | apply Kd.R_drewN | apply Kd.R_drew)); exact HO117.out) (Kd.R_base ho45) hb)
                have n2_ := as0 (Kd.R_elder' (by (with_reducible repeat (first | apply Kd.R_alloc | apply Kd.R_drewN | apply Kd.R_drew)); exact HO120.out) (Kd.R_base ho45) hb)
                have n3_ := as0 (Kd.R_below (by (with_reducible repeat (first | apply Kd.R_alloc | apply Kd.R_drewN | apply Kd.R_drew)); exact HO124.out) hb)
                have n4_ := as0 (Kd.R_elder' (by (with_reducible repeat (first | apply Kd.R_alloc | apply Kd.R_drewN | apply Kd.R_drew)); exact HO127.out) (Kd.R_base ho45) hb)
                have n5_ := as0 (Kd.R_below (by (with_reducible repeat (first | apply Kd.R_alloc | apply Kd.R_drewN | apply Kd.R_drew)); exact HO130.out) hb)
                have n6_ := as0 (Kd.R_below (by (with_reducible repeat (first | apply Kd.R_alloc | apply Kd.R_drewN | apply Kd.R_drew)); exact HO133.out) hb)
                have n7_ := as0 (Kd.R_elder' (by (with_reducible repeat (first | apply Kd.R_alloc | apply Kd.R_drewN | apply Kd.R_drew)); exact HO136.out) (Kd.R_base ho45) hb)
                have n8_ := as0 (Kd.R_lower (Kd.R_newB (Kd.R_new' (Kd.R_new' (Kd.R_new' (Kd.R_new' (Kd.R_new' ho45 (Kd.R_lt (by (with_reducible repeat (first | apply Kd.R_alloc | apply Kd.R_drewN | apply Kd.R_drew)); exact HO114.out))) (Kd.R_lt (by (with_reducible repeat (first | apply Kd.R_alloc | apply Kd.R_drewN | apply Kd.R_drew)); exact HO117.out))) (Kd.R_lt (by (with_reducible repeat (first | apply Kd.R_alloc | apply Kd.R_drewN | apply Kd.R_drew)); exact HO120.out))) (Kd.R_lt (by (with_reducible repeat (first | apply Kd.R_alloc | apply Kd.R_drewN | apply Kd.R_drew)); exact HO127.out))) (Kd.R_lt (by (with_reducible repeat (first | apply Kd.R_alloc | apply Kd.R_drewN | apply Kd.R_drew)); exact HO136.out))) (g := gb111) (o := .cells #[.string ((rd_T25 t118 0).f0), .string ((rd_T25 t118 0).f1)] 25 (0, 0)) (by (with_reducible repeat (first | refine blk_drewN ?_ _ | refine blk_drew ?_ | refine blk_alloc ?_ _)); exact BK111.out)) (below_size (by repeat (first | (with_reducible first | exact HB.out | apply below_alloc | apply pw_below_drewN | apply below_drew1 | refine below_set ?_ GE111.out) | exact HB.out))))
                have n9_ := as0 (blk_below (g := gb111) (o := .cells #[.string ((rd_T25 t118 0).f0), .string ((rd_T25 t118 0).f1)] 25 (0, 0)) (by (with_reducible repeat (first | refine blk_drewN ?_ _ | refine blk_drew ?_ | refine blk_alloc ?_ _)); exact BK111.out) hb)
                have n10_ := as0 (below_step (by repeat (first | (with_reducible first | exact HB.out | apply below_alloc | apply pw_below_drewN | apply below_drew1 | refine below_set ?_ GE111.out) | exact HB.out)) hb)
                clear HO114
                clear HO117
                clear HO120
                clear HO124
                clear HO127
                clear HO130
                clear HO133
                clear HO136
                clear BK111
                clear HB
                have HO114 := n0_
                have HO117 := n1_
                have HO120 := n2_
                have HO124 := n3_
                have HO127 := n4_
                have HO130 := n5_
                have HO133 := n6_
                have HO136 := n7_
                have HO143 := n8_
                have BK111 := n9_
                have HB := n10_
                clear n0_ n1_ n2_ n3_ n4_ n5_ n6_ n7_ n8_ n9_ n10_
                clear hb ho45
                refine hK.out _ _ ⟨(blk_cell BK111.out 0).trans rfl, (blk_cell BK111.out 1).trans rfl⟩ (fun hHeld => ?_)
                clear hK K
                refine norm_ (a' := ?_) ?_ ?_
                rotate_left
                ·show Act.put _ (some 43) _ = _
                 simp only [Act.put, List.setIfInBounds_toArray, List.set_cons_zero, List.set_cons_succ, i64_w, i32_w]
                 rfl
                exact norm_ (by first | (simp only [putAll, Act.put, List.setIfInBounds_toArray, List.set_cons_zero, List.set_cons_succ]; done) | (simp only [putAll, Act.put, List.setIfInBounds_toArray, List.set_cons_zero, List.set_cons_succ]; rfl)) (hJ8 (v142) _ ⟨hHeld, (by (with_reducible repeat (first | apply Kd.R_alloc | apply Kd.R_drewN | apply Kd.R_drew)); exact Kd.R_mono HO114.out (fun _ hk => ⟨hk.1.1.1.1.1, ⟨hk.1.1.1.2, ⟨hk.1.1.2, ⟨hk.1.2, ⟨hk.2, hk.1.1.1.1.2⟩⟩⟩⟩⟩)), (by (with_reducible repeat (first | apply Kd.R_alloc | apply Kd.R_drewN | apply Kd.R_drew)); exact Kd.R_mono HO117.out (fun _ hk => ⟨hk.1.1.1.1.1, ⟨hk.1.1.1.2, ⟨hk.1.1.2, ⟨hk.1.2, ⟨hk.2, hk.1.1.1.1.2⟩⟩⟩⟩⟩)), (by (with_reducible repeat (first | apply Kd.R_alloc | apply Kd.R_drewN | apply Kd.R_drew)); exact Kd.R_mono HO120.out (fun _ hk => ⟨hk.1.1.1.1.1.2, ⟨hk.1.1.1.1.2, ⟨hk.1.1.2, ⟨hk.1.2, ⟨hk.2, hk.1.1.1.2⟩⟩⟩⟩⟩)), (by (with_reducible repeat (first | apply Kd.R_alloc | apply Kd.R_drewN | apply Kd.R_drew)); exact Kd.R_mono HO124.out (fun _ hk => ⟨hk.1.2, hk.2⟩)), (by (with_reducible repeat (first | apply Kd.R_alloc | apply Kd.R_drewN | apply Kd.R_drew)); exact Kd.R_mono HO127.out (fun _ hk => ⟨hk.1.1.1.1.1.2, ⟨hk.1.1.1.1.2, ⟨hk.1.1.1.2, ⟨hk.1.2, ⟨hk.2, hk.1.1.2⟩⟩⟩⟩⟩)), (by (with_reducible repeat (first | apply Kd.R_alloc | apply Kd.R_drewN | apply Kd.R_drew)); exact Kd.R_mono HO130.out (fun _ hk => ⟨hk.1.2, hk.2⟩)), (by (with_reducible repeat (first | apply Kd.R_alloc | apply Kd.R_drewN | apply Kd.R_drew)); exact Kd.R_mono HO133.out (fun _ hk => ⟨hk.1.2, hk.2⟩)), (by (with_reducible repeat (first | apply Kd.R_alloc | apply Kd.R_drewN | apply Kd.R_drew)); exact Kd.R_mono HO136.out (fun _ hk => ⟨hk.1.1.1.1.1.2, ⟨hk.1.1.1.1.2, ⟨hk.1.1.1.2, ⟨hk.1.1.2, ⟨hk.2, hk.1.2⟩⟩⟩⟩⟩)), (by (with_reducible repeat (first | apply Kd.R_alloc | apply Kd.R_drewN | apply Kd.R_drew)); exact Kd.R_mono HO143.out (fun _ hk => ⟨hk.1.1.1.1.1.2, ⟨hk.1.1.1.1.2, ⟨hk.1.1.1.2, ⟨hk.1.1.2, ⟨hk.1.2, hk.2⟩⟩⟩⟩⟩)), BK111.out, HB.out⟩)
               ·skip
                refine Kd.R_lit_step k25 _ 25 ?hg (N := 47) ?hd (xs := ([(⟨(rd_T25 t118 0).f0, (rd_T25 t118 0).f1⟩ : S25)] : List (S25))) (inner := [.string ((rd_T25 t118 0).f0), .string ((rd_T25 t118 0).f1)]) (ok := fun _ => True) (okp := fun _ => True) ?hr ?hp (fun _ hk => hk) trivial (Below.refl _ _) (Nat.le_refl _) (by simp) ?_; (case hd => rfl); (case hg => rfl); (case hr => first | (go_simp; done) | (go_simp; rfl)); (case hp => exact (Reps.c2 (show Kd.M k25 _ _ _ (⟨(rd_T25 t118 0).f0, (rd_T25 t118 0).f1⟩ : S25) [.string ((rd_T25 t118 0).f0), .string ((rd_T25 t118 0).f1)] from (k25_mkM _ _ _ (⟨(rd_T25 t118 0).f0, (rd_T25 t118 0).f1⟩ : S25) )) (Reps.none _ _)))
                intro v148 w44 ho45 hb hg_ hnew_
                clear hg_ hnew_
                (first | rw [← Ny147.out] at ho45 | (simp only [Int.reduceToNat] at ho45; rw [← Ny147.out] at ho45))
                have n0_ := as0 (Kd.R_elder' (by (with_reducible repeat (first | apply Kd.R_alloc | apply Kd.R_drewN | apply Kd.R_drew)); exact HO114.out) (Kd.R_base ho45) hb)
                have n1_ := as0 (Kd.R_elder' (by (with_reducible repeat (first | apply Kd.R_alloc | apply Kd.R_drewN | apply Kd.R_drew)); exact HO117.out) (Kd.R_base ho45) hb)
                have n2_ := as0 (Kd.R_elder' (by (with_reducible repeat (first | apply Kd.R_alloc | apply Kd.R_drewN | apply Kd.R_drew)); exact HO120.out) (Kd.R_base ho45) hb)
                have n3_ := as0 (Kd.R_below (by (with_reducible repeat (first | apply Kd.R_alloc | apply Kd.R_drewN | apply Kd.R_drew)); exact HO124.out) hb)
                have n4_ := as0 (Kd.R_elder' (by (with_reducible repeat (first | apply Kd.R_alloc | apply Kd.R_drewN | apply Kd.R_drew)); exact HO127.out) (Kd.R_base ho45) hb)
                have n5_ := as0 (Kd.R_below (by (with_reducible repeat (first | apply Kd.R_alloc | apply Kd.R_drewN | apply Kd.R_drew)); exact HO130.out) hb)
                have n6_ := as0 (Kd.R_below (by (with_reducible repeat (first | apply Kd.R_alloc | apply Kd.R_drewN | apply Kd.R_drew)); exact HO133.out) hb)
                have n7_ := as0 (Kd.R_elder' (by (with_reducible repeat (first | apply Kd.R_alloc | apply Kd.R_drewN | apply Kd.R_drew)); exact HO136.out) (Kd.R_base ho45) hb)
                have n8_ := as0 (Kd.R_lower (Kd.R_newB (Kd.R_new' (Kd.R_new' (Kd.R_new' (Kd.R_new' (Kd.R_new' ho45 (Kd.R_lt (by (with_reducible repeat (first | apply Kd.R_alloc | apply Kd.R_drewN | apply Kd.R_drew)); exact HO114.out))) (Kd.R_lt (by (with_reducible repeat (first | apply Kd.R_alloc | apply Kd.R_drewN | apply Kd.R_drew)); exact HO117.out))) (Kd.R_lt (by (with_reducible repeat (first | apply Kd.R_alloc | apply Kd.R_drewN | apply Kd.R_drew)); exact HO120.out))) (Kd.R_lt (by (with_reducible repeat (first | apply Kd.R_alloc | apply Kd.R_drewN | apply Kd.R_drew)); exact HO127.out))) (Kd.R_lt (by (with_reducible repeat (first | apply Kd.R_alloc | apply Kd.R_drewN | apply Kd.R_drew)); exact HO136.out))) (g := gb111) (o := .cells #[.string ((rd_T25 t118 0).f0), .string ((rd_T25 t118 0).f1)] 25 (0, 0)) (by (with_reducible repeat (first | refine blk_drewN ?_ _ | refine blk_drew ?_ | refine blk_alloc ?_ _)); exact BK111.out)) (below_size (by repeat (first | (with_reducible first | exact HB.out | apply below_alloc | apply pw_below_drewN | apply below_drew1 | refine below_set ?_ GE111.out) | exact HB.out))))
                have n9_ := as0 (blk_below (g := gb111) (o := .cells #[.string ((rd_T25 t118 0).f0), .string ((rd_T25 t118 0).f1)] 25 (0, 0)) (by (with_reducible repeat (first | refine blk_drewN ?_ _ | refine blk_drew ?_ | refine blk_alloc ?_ _)); exact BK111.out) hb)
                have n10_ := as0 (below_step (by repeat (first | (with_reducible first | exact HB.out | apply below_alloc | apply pw_below_drewN | apply below_drew1 | refine below_set ?_ GE111.out) | exact HB.out)) hb)
                clear HO114
                clear HO117
                clear HO120
                clear HO124
                clear HO127
                clear HO130
                clear HO133
                clear HO136
                clear BK111
                clear HB
                have HO114 := n0_
                have HO117 := n1_
                have HO120 := n2_
                have HO124 := n3_
                have HO127 := n4_
                have HO130 := n5_
                have HO133 := n6_
                have HO136 := n7_
                have HO149 := n8_
                have BK111 := n9_
                have HB := n10_
                clear n0_ n1_ n2_ n3_ n4_ n5_ n6_ n7_ n8_ n9_ n10_
                clear hb ho45
                refine hK.out _ _ ⟨(blk_cell BK111.out 0).trans rfl, (blk_cell BK111.out 1).trans rfl⟩ (fun hHeld => ?_)
                clear hK K
                refine norm_ (a' := ?_) ?_ ?_
                rotate_left
                ·show Act.put _ (some 47) _ = _
                 simp only [Act.put, List.setIfInBounds_toArray, List.set_cons_zero, List.set_cons_succ, i64_w, i32_w]
                 rfl
                exact norm_ (by first | (simp only [putAll, Act.put, List.setIfInBounds_toArray, List.set_cons_zero, List.set_cons_succ]; done) | (simp only [putAll, Act.put, List.setIfInBounds_toArray, List.set_cons_zero, List.set_cons_succ]; rfl)) (hJ12 (v148) _ ⟨hHeld, (by (with_reducible repeat (first | apply Kd.R_alloc | apply Kd.R_drewN | apply Kd.R_drew)); exact Kd.R_mono HO114.out (fun _ hk => ⟨hk.1.1.1.1.1, ⟨hk.1.1.1.2, ⟨hk.1.1.2, ⟨hk.1.2, ⟨hk.2, hk.1.1.1.1.2⟩⟩⟩⟩⟩)), (by (with_reducible repeat (first | apply Kd.R_alloc | apply Kd.R_drewN | apply Kd.R_drew)); exact Kd.R_mono HO117.out (fun _ hk => ⟨hk.1.1.1.1.1, ⟨hk.1.1.1.2, ⟨hk.1.1.2, ⟨hk.1.2, ⟨hk.2, hk.1.1.1.1.2⟩⟩⟩⟩⟩)), (by (with_reducible repeat (first | apply Kd.R_alloc | apply Kd.R_drewN | apply Kd.R_drew)); exact Kd.R_mono HO120.out (fun _ hk => ⟨hk.1.1.1.1.1.2, ⟨hk.1.1.1.1.2, ⟨hk.1.1.2, ⟨hk.1.2, ⟨hk.2, hk.1.1.1.2⟩⟩⟩⟩⟩)), (by (with_reducible repeat (first | apply Kd.R_alloc | apply Kd.R_drewN | apply Kd.R_drew)); exact Kd.R_mono HO124.out (fun _ hk => ⟨hk.1.2, hk.2⟩)), (by (with_reducible repeat (first | apply Kd.R_alloc | apply Kd.R_drewN | apply Kd.R_drew)); exact Kd.R_mono HO127.out (fun _ hk => ⟨hk.1.1.1.1.1.2, ⟨hk.1.1.1.1.2, ⟨hk.1.1.1.2, ⟨hk.1.2, ⟨hk.2, hk.1.1.2⟩⟩⟩⟩⟩)), (by (with_reducible repeat (first | apply Kd.R_alloc | apply Kd.R_drewN | apply Kd.R_drew)); exact Kd.R_mono HO130.out (fun _ hk => ⟨hk.1.2, hk.2⟩)), (by (with_reducible repeat (first | apply Kd.R_alloc | apply Kd.R_drewN | apply Kd.R_drew)); exact Kd.R_mono HO133.out (fun _ hk => ⟨hk.1.2, hk.2⟩)), (by (with_reducible repeat (first | apply Kd.R_alloc | apply Kd.R_drewN | apply Kd.R_drew)); exact Kd.R_mono HO136.out (fun _ hk => ⟨hk.1.1.1.1.1.2, ⟨hk.1.1.1.1.2, ⟨hk.1.1.1.2, ⟨hk.1.1.2, ⟨hk.2, hk.1.2⟩⟩⟩⟩⟩)), (by (with_reducible repeat (first | apply Kd.R_alloc | apply Kd.R_drewN | apply Kd.R_drew)); exact Kd.R_mono HO149.out (fun _ hk => ⟨hk.1.1.1.1.1.2, ⟨hk.1.1.1.1.2, ⟨hk.1.1.1.2, ⟨hk.1.1.2, ⟨hk.1.2, hk.2⟩⟩⟩⟩⟩)), BK111.out, HB.out⟩)
              ·skip
               rintro v148 w46 ⟨hS_, h0_, h1_, h2_, h3_, h4_, h5_, h6_, h7_, h8_, h9_, h10_⟩
               have n0_ : Aside0 (Kd.R k25 25 w46 w.heap.size (fun k_ => some k_ ≠ (.slice Ao17 y115.length co17 : Value).ownBlock ∧ some k_ ≠ (.slice (some ad121) t118.length co19 : Value).ownBlock ∧ some k_ ≠ (.slice Ao39 t125.length co39 : Value).ownBlock ∧ some k_ ≠ (.slice Ao43 t134.length co43 : Value).ownBlock ∧ some k_ ≠ (v148 : Value).ownBlock ∧ k_ ≠ gb111) (.slice Ao22 t112.length co22) t112) := ⟨h0_⟩
               have n1_ : Aside0 (Kd.R k25 25 w46 w.heap.size (fun k_ => some k_ ≠ (.slice Ao22 t112.length co22 : Value).ownBlock ∧ some k_ ≠ (.slice (some ad121) t118.length co19 : Value).ownBlock ∧ some k_ ≠ (.slice Ao39 t125.length co39 : Value).ownBlock ∧ some k_ ≠ (.slice Ao43 t134.length co43 : Value).ownBlock ∧ some k_ ≠ (v148 : Value).ownBlock ∧ k_ ≠ gb111) (.slice Ao17 y115.length co17) y115) := ⟨h1_⟩
               have n2_ : Aside0 (Kd.R k25 25 w46 w.heap.size (fun k_ => some k_ ≠ (.slice Ao22 t112.length co22 : Value).ownBlock ∧ some k_ ≠ (.slice Ao17 y115.length co17 : Value).ownBlock ∧ some k_ ≠ (.slice Ao39 t125.length co39 : Value).ownBlock ∧ some k_ ≠ (.slice Ao43 t134.length co43 : Value).ownBlock ∧ some k_ ≠ (v148 : Value).ownBlock ∧ k_ ≠ gb111) (.slice (some ad121) t118.length co19) t118) := ⟨h2_⟩
               have n3_ : Aside0 (Kd.R k28 28 w46 w.heap.size (fun k_ => some k_ ≠ (.slice Ao38 t128.length co38 : Value).ownBlock ∧ some k_ ≠ (.slice Ao40 t131.length co40 : Value).ownBlock) (.slice Ao27 t122.length co27) t122) := ⟨h3_⟩
               have n4_ : Aside0 (Kd.R k25 25 w46 w.heap.size (fun k_ => some k_ ≠ (.slice Ao22 t112.length co22 : Value).ownBlock ∧ some k_ ≠ (.slice Ao17 y115.length co17 : Value).ownBlock ∧ some k_ ≠ (.slice (some ad121) t118.length co19 : Value).ownBlock ∧ some k_ ≠ (.slice Ao43 t134.length co43 : Value).ownBlock ∧ some k_ ≠ (v148 : Value).ownBlock ∧ k_ ≠ gb111) (.slice Ao39 t125.length co39) t125) := ⟨h4_⟩
               have n5_ : Aside0 (Kd.R k28 28 w46 w.heap.size (fun k_ => some k_ ≠ (.slice Ao27 t122.length co27 : Value).ownBlock ∧ some k_ ≠ (.slice Ao40 t131.length co40 : Value).ownBlock) (.slice Ao38 t128.length co38) t128) := ⟨h5_⟩
               have n6_ : Aside0 (Kd.R k28 28 w46 w.heap.size (fun k_ => some k_ ≠ (.slice Ao27 t122.length co27 : Value).ownBlock ∧ some k_ ≠ (.slice Ao38 t128.length co38 : Value).ownBlock) (.slice Ao40 t131.length co40) t131) := ⟨h6_⟩
               have n7_ : Aside0 (Kd.R k25 25 w46 w.heap.size (fun k_ => some k_ ≠ (.slice Ao22 t112.length co22 : Value).ownBlock ∧ some k_ ≠ (.slice Ao17 y115.length co17 : Value).ownBlock ∧ some k_ ≠ (.slice (some ad121) t118.length co19 : Value).ownBlock ∧ some k_ ≠ (.slice Ao39 t125.length co39 : Value).ownBlock ∧ some k_ ≠ (v148 : Value).ownBlock ∧ k_ ≠ gb111) (.slice Ao43 t134.length co43) t134) := ⟨h7_⟩
               have n8_ : Aside0 (Kd.R k25 25 w46 w.heap.size (fun k_ => some k_ ≠ (.slice Ao22 t112.length co22 : Value).ownBlock ∧ some k_ ≠ (.slice Ao17 y115.length co17 : Value).ownBlock ∧ some k_ ≠ (.slice (some ad121) t118.length co19 : Value).ownBlock ∧ some k_ ≠ (.slice Ao39 t125.length co39 : Value).ownBlock ∧ some k_ ≠ (.slice Ao43 t134.length co43 : Value).ownBlock ∧ k_ ≠ gb111) v148 y147) := ⟨h8_⟩
               have n9_ : Aside0 (w46.heap[gb111]? = some (.cells #[.string ((rd_T25 t118 0).f0), .string ((rd_T25 t118 0).f1)] 25 (0, 0))) := ⟨h9_⟩
               have n10_ : Aside0 (Below w.heap.size w w46) := ⟨h10_⟩
               clear HO114
               clear HO117
               clear HO120
               clear HO124
               clear HO127
               clear HO130
               clear HO133
               clear BK111
               clear HB
               clear h0_ h1_ h2_ h3_ h4_ h5_ h6_ h7_ h8_ h9_ h10_
               have HO114 := n0_
               have HO117 := n1_
               have HO120 := n2_
               have HO124 := n3_
               have HO127 := n4_
               have HO130 := n5_
               have HO133 := n6_
               have HO136 := n7_
               have HO149 := n8_
               have BK111 := n9_
               have HB := n10_
               clear n0_ n1_ n2_ n3_ n4_ n5_ n6_ n7_ n8_ n9_ n10_
               have hHeld : w46.cell? ⟨gb111, 0, none⟩ = some (.string ((rd_T25 t118 0).f0)) ∧ w46.cell? ⟨gb111, 1, none⟩ = some (.string ((rd_T25 t118 0).f1)) := hS_
               refine norm_ (a' := ?_) ?_ ?_
               rotate_left
               ·simp only [putAll, Act.put, List.setIfInBounds_toArray, List.set_cons_zero, List.set_cons_succ]
                rfl
               refine two_ (i := 7) (j := 8) (Ni := some 42) (Nj := some 43) #[true, true, true, true, true, true, true, true, false, true, false, true, true, false, false, false, false] #[true, true, true, true, true, true, true, false, true, true, false, true, true, false, false, false, false] rfl rfl rfl rfl (two_of HT_.out (by kernel_rfl)) (by decide) (by decide) (fun K hK => ?_) (fun K hK => ?_)
               ·skip
                refine goes_ Try.func25 (by kernel_rfl) rfl #[.slice Ao40 t131.length co40] (by rfl) rfl rfl (by (try simp only [List.map_toArray, List.map_cons, List.map_nil]); first | done | rfl | (simp only [List.length_drop, List.length_take]; rfl)) ?_
                with_reducible refine (PA.bulletinlaw09_Of.calls k _ _ t131 t138 _ ?side1 ?side2 A34.out).mono ?_
                (case side1 => repeat (first | exact (Kd.R_reads' HO133.out).2.2 | (with_reducible refine Kd.C_alloc ?_ _) | (with_reducible refine Kd.C_drewN ?_ _) | (with_reducible refine Kd.C_drew ?_)))
                (case side2 => exact (Kd.R_reads' HO133.out).2.1)
                rintro e w47 ⟨v139, rfl, ho0, hb⟩
                refine ⟨_, rfl, ?_⟩
                have n0_ := as0 (Kd.R_elder' HO114.out (Kd.R_base ho0) hb)
                have n1_ := as0 (Kd.R_elder' HO117.out (Kd.R_base ho0) hb)
                have n2_ := as0 (Kd.R_elder' HO120.out (Kd.R_base ho0) hb)
                have n3_ := as0 (Kd.R_below HO124.out hb)
                have n4_ := as0 (Kd.R_elder' HO127.out (Kd.R_base ho0) hb)
                have n5_ := as0 (Kd.R_below HO130.out hb)
                have n6_ := as0 (Kd.R_below HO133.out hb)
                have n7_ := as0 (Kd.R_elder' HO136.out (Kd.R_base ho0) hb)
                have n8_ := as0 (Kd.R_elder' HO149.out (Kd.R_base ho0) hb)
                have n9_ := as0 (Kd.R_lower (Kd.R_newB (Kd.R_new' (Kd.R_new' (Kd.R_new' (Kd.R_new' (Kd.R_new' (Kd.R_new' ho0 (Kd.R_lt HO114.out)) (Kd.R_lt HO117.out)) (Kd.R_lt HO120.out)) (Kd.R_lt HO127.out)) (Kd.R_lt HO136.out)) (Kd.R_lt HO149.out)) (g := gb111) (o := .cells #[.string ((rd_T25 t118 0).f0), .string ((rd_T25 t118 0).f1)] 25 (0, 0)) BK111.out) (below_size HB.out))
                have n10_ := as0 (blk_below (g := gb111) (o := .cells #[.string ((rd_T25 t118 0).f0), .string ((rd_T25 t118 0).f1)] 25 (0, 0)) BK111.out hb)
                have n11_ := as0 (below_step HB.out hb)
                clear HO114
                clear HO117
                clear HO120
                clear HO124
                clear HO127
                clear HO130
                clear HO133
                clear HO136
                clear HO149
                clear BK111
                clear HB
                have HO114 := n0_
                have HO117 := n1_
                have HO120 := n2_
                have HO124 := n3_
                have HO127 := n4_
                have HO130 := n5_
                have HO133 := n6_
                have HO136 := n7_
                have HO149 := n8_
                have HO140 := n9_
                have BK111 := n10_
                have HB := n11_
                clear n0_ n1_ n2_ n3_ n4_ n5_ n6_ n7_ n8_ n9_ n10_ n11_
                refine hK.out _ _ ⟨(blk_cell BK111.out 0).trans rfl, (blk_cell BK111.out 1).trans rfl⟩ (fun hHeld => ?_)
                clear hK K
                refine norm_ (a' := ?_) ?_ ?_
                rotate_left
                ·show Act.put _ (some 42) _ = _
                 simp only [Act.put, List.setIfInBounds_toArray, List.set_cons_zero, List.set_cons_succ, i64_w, i32_w]
                 rfl
                exact norm_ (by first | (simp only [putAll, Act.put, List.setIfInBounds_toArray, List.set_cons_zero, List.set_cons_succ]; done) | (simp only [putAll, Act.put, List.setIfInBounds_toArray, List.set_cons_zero, List.set_cons_succ]; rfl)) (hJ7_12 (v139, v148) _ ⟨hHeld, (by (with_reducible repeat (first | apply Kd.R_alloc | apply Kd.R_drewN | apply Kd.R_drew)); exact Kd.R_mono HO114.out (fun _ hk => ⟨hk.1.1, ⟨hk.1.2.1, ⟨hk.1.2.2.1, ⟨hk.1.2.2.2.1, ⟨hk.2, ⟨hk.1.2.2.2.2.1, hk.1.2.2.2.2.2⟩⟩⟩⟩⟩⟩)), (by (with_reducible repeat (first | apply Kd.R_alloc | apply Kd.R_drewN | apply Kd.R_drew)); exact Kd.R_mono HO117.out (fun _ hk => ⟨hk.1.1, ⟨hk.1.2.1, ⟨hk.1.2.2.1, ⟨hk.1.2.2.2.1, ⟨hk.2, ⟨hk.1.2.2.2.2.1, hk.1.2.2.2.2.2⟩⟩⟩⟩⟩⟩)), (by (with_reducible repeat (first | apply Kd.R_alloc | apply Kd.R_drewN | apply Kd.R_drew)); exact Kd.R_mono HO120.out (fun _ hk => ⟨hk.1.1, ⟨hk.1.2.1, ⟨hk.1.2.2.1, ⟨hk.1.2.2.2.1, ⟨hk.2, ⟨hk.1.2.2.2.2.1, hk.1.2.2.2.2.2⟩⟩⟩⟩⟩⟩)), HO124.out, (by (with_reducible repeat (first | apply Kd.R_alloc | apply Kd.R_drewN | apply Kd.R_drew)); exact Kd.R_mono HO127.out (fun _ hk => ⟨hk.1.1, ⟨hk.1.2.1, ⟨hk.1.2.2.1, ⟨hk.1.2.2.2.1, ⟨hk.2, ⟨hk.1.2.2.2.2.1, hk.1.2.2.2.2.2⟩⟩⟩⟩⟩⟩)), HO130.out, HO133.out, (by (with_reducible repeat (first | apply Kd.R_alloc | apply Kd.R_drewN | apply Kd.R_drew)); exact Kd.R_mono HO136.out (fun _ hk => ⟨hk.1.1, ⟨hk.1.2.1, ⟨hk.1.2.2.1, ⟨hk.1.2.2.2.1, ⟨hk.2, ⟨hk.1.2.2.2.2.1, hk.1.2.2.2.2.2⟩⟩⟩⟩⟩⟩)), (by (with_reducible repeat (first | apply Kd.R_alloc | apply Kd.R_drewN | apply Kd.R_drew)); exact Kd.R_mono HO140.out (fun _ hk => ⟨hk.1.1.1.1.1.1.2, ⟨hk.1.1.1.1.1.2, ⟨hk.1.1.1.1.2, ⟨hk.1.1.1.2, ⟨hk.1.1.2, ⟨hk.1.2, hk.2⟩⟩⟩⟩⟩⟩)), (by (with_reducible repeat (first | apply Kd.R_alloc | apply Kd.R_drewN | apply Kd.R_drew)); exact Kd.R_mono HO149.out (fun _ hk => ⟨hk.1.1, ⟨hk.1.2.1, ⟨hk.1.2.2.1, ⟨hk.1.2.2.2.1, ⟨hk.1.2.2.2.2.1, ⟨hk.2, hk.1.2.2.2.2.2⟩⟩⟩⟩⟩⟩)), BK111.out, HB.out⟩)
               ·skip
                refine Kd.R_lit_step k25 _ 25 ?hg (N := 43) ?hd (xs := ([] : List (S25))) (inner := []) (ok := fun _ => True) (okp := fun _ => True) ?hr ?hp (fun _ hk => hk) trivial (Below.refl _ _) (Nat.le_refl _) (by simp) ?_; (case hd => rfl); (case hg => rfl); (case hr => first | (go_simp; done) | (go_simp; rfl)); (case hp => exact (Reps.none _ _))
                intro v142 w47 ho48 hb hg_ hnew_
                clear hg_ hnew_
                (first | rw [← Ny141.out] at ho48 | (simp only [Int.reduceToNat] at ho48; rw [← Ny141.out] at ho48))
                have n0_ := as0 (Kd.R_elder' HO114.out (Kd.R_base ho48) hb)
                have n1_ := as0 (Kd.R_elder' HO117.out (Kd.R_base ho48) hb)
                have n2_ := as0 (Kd.R_elder' HO120.out (Kd.R_base ho48) hb)
                have n3_ := as0 (Kd.R_below HO124.out hb)
                have n4_ := as0 (Kd.R_elder' HO127.out (Kd.R_base ho48) hb)
                have n5_ := as0 (Kd.R_below HO130.out hb)
                have n6_ := as0 (Kd.R_below HO133.out hb)
                have n7_ := as0 (Kd.R_elder' HO136.out (Kd.R_base ho48) hb)
                have n8_ := as0 (Kd.R_elder' HO149.out (Kd.R_base ho48) hb)
                have n9_ := as0 (Kd.R_lower (Kd.R_newB (Kd.R_new' (Kd.R_new' (Kd.R_new' (Kd.R_new' (Kd.R_new' (Kd.R_new' ho48 (Kd.R_lt HO114.out)) (Kd.R_lt HO117.out)) (Kd.R_lt HO120.out)) (Kd.R_lt HO127.out)) (Kd.R_lt HO136.out)) (Kd.R_lt HO149.out)) (g := gb111) (o := .cells #[.string ((rd_T25 t118 0).f0), .string ((rd_T25 t118 0).f1)] 25 (0, 0)) BK111.out) (below_size HB.out))
                have n10_ := as0 (blk_below (g := gb111) (o := .cells #[.string ((rd_T25 t118 0).f0), .string ((rd_T25 t118 0).f1)] 25 (0, 0)) BK111.out hb)
                have n11_ := as0 (below_step HB.out hb)
                clear HO114
                clear HO117
                clear HO120
                clear HO124
                clear HO127
                clear HO130
                clear HO133
                clear HO136
                clear HO149
                clear BK111
                clear HB
                have HO114 := n0_
                have HO117 := n1_
                have HO120 := n2_
                have HO124 := n3_
                have HO127 := n4_
                have HO130 := n5_
                have HO133 := n6_
                have HO136 := n7_
                have HO149 := n8_
                have HO143 := n9_
                have BK111 := n10_
                have HB := n11_
                clear n0_ n1_ n2_ n3_ n4_ n5_ n6_ n7_ n8_ n9_ n10_ n11_
                clear hb ho48
                refine hK.out _ _ ⟨(blk_cell BK111.out 0).trans rfl, (blk_cell BK111.out 1).trans rfl⟩ (fun hHeld => ?_)
                clear hK K
                refine norm_ (a' := ?_) ?_ ?_
                rotate_left
                ·show Act.put _ (some 43) _ = _
                 simp only [Act.put, List.setIfInBounds_toArray, List.set_cons_zero, List.set_cons_succ, i64_w, i32_w]
                 rfl
                exact norm_ (by first | (simp only [putAll, Act.put, List.setIfInBounds_toArray, List.set_cons_zero, List.set_cons_succ]; done) | (simp only [putAll, Act.put, List.setIfInBounds_toArray, List.set_cons_zero, List.set_cons_succ]; rfl)) (hJ8_12 (v142, v148) _ ⟨hHeld, (by (with_reducible repeat (first | apply Kd.R_alloc | apply Kd.R_drewN | apply Kd.R_drew)); exact Kd.R_mono HO114.out (fun _ hk => ⟨hk.1.1, ⟨hk.1.2.1, ⟨hk.1.2.2.1, ⟨hk.1.2.2.2.1, ⟨hk.2, ⟨hk.1.2.2.2.2.1, hk.1.2.2.2.2.2⟩⟩⟩⟩⟩⟩)), (by (with_reducible repeat (first | apply Kd.R_alloc | apply Kd.R_drewN | apply Kd.R_drew)); exact Kd.R_mono HO117.out (fun _ hk => ⟨hk.1.1, ⟨hk.1.2.1, ⟨hk.1.2.2.1, ⟨hk.1.2.2.2.1, ⟨hk.2, ⟨hk.1.2.2.2.2.1, hk.1.2.2.2.2.2⟩⟩⟩⟩⟩⟩)), (by (with_reducible repeat (first | apply Kd.R_alloc | apply Kd.R_drewN | apply Kd.R_drew)); exact Kd.R_mono HO120.out (fun _ hk => ⟨hk.1.1, ⟨hk.1.2.1, ⟨hk.1.2.2.1, ⟨hk.1.2.2.2.1, ⟨hk.2, ⟨hk.1.2.2.2.2.1, hk.1.2.2.2.2.2⟩⟩⟩⟩⟩⟩)), HO124.out, (by (with_reducible repeat (first | apply Kd.R_alloc | apply Kd.R_drewN | apply Kd.R_drew)); exact Kd.R_mono HO127.out (fun _ hk => ⟨hk.1.1, ⟨hk.1.2.1, ⟨hk.1.2.2.1, ⟨hk.1.2.2.2.1, ⟨hk.2, ⟨hk.1.2.2.2.2.1, hk.1.2.2.2.2.2⟩⟩⟩⟩⟩⟩)), HO130.out, HO133.out, (by (with_reducible repeat (first | apply Kd.R_alloc | apply Kd.R_drewN | apply Kd.R_drew)); exact Kd.R_mono HO136.out (fun _ hk => ⟨hk.1.1, ⟨hk.1.2.1, ⟨hk.1.2.2.1, ⟨hk.1.2.2.2.1, ⟨hk.2, ⟨hk.1.2.2.2.2.1, hk.1.2.2.2.2.2⟩⟩⟩⟩⟩⟩)), (by (with_reducible repeat (first | apply Kd.R_alloc | apply Kd.R_drewN | apply Kd.R_drew)); exact Kd.R_mono HO143.out (fun _ hk => ⟨hk.1.1.1.1.1.1.2, ⟨hk.1.1.1.1.1.2, ⟨hk.1.1.1.1.2, ⟨hk.1.1.1.2, ⟨hk.1.1.2, ⟨hk.1.2, hk.2⟩⟩⟩⟩⟩⟩)), (by (with_reducible repeat (first | apply Kd.R_alloc | apply Kd.R_drewN | apply Kd.R_drew)); exact Kd.R_mono HO149.out (fun _ hk => ⟨hk.1.1, ⟨hk.1.2.1, ⟨hk.1.2.2.1, ⟨hk.1.2.2.2.1, ⟨hk.1.2.2.2.2.1, ⟨hk.2, hk.1.2.2.2.2.2⟩⟩⟩⟩⟩⟩)), BK111.out, HB.out⟩)
             ·skip
              rintro v142 w46 ⟨hS_, h0_, h1_, h2_, h3_, h4_, h5_, h6_, h7_, h8_, h9_, h10_⟩
              have n0_ : Aside0 (Kd.R k25 25 w46 w.heap.size (fun k_ => some k_ ≠ (.slice Ao17 y115.length co17 : Value).ownBlock ∧ some k_ ≠ (.slice (some ad121) t118.length co19 : Value).ownBlock ∧ some k_ ≠ (.slice Ao39 t125.length co39 : Value).ownBlock ∧ some k_ ≠ (.slice Ao43 t134.length co43 : Value).ownBlock ∧ some k_ ≠ (v142 : Value).ownBlock ∧ k_ ≠ gb111) (.slice Ao22 t112.length co22) t112) := ⟨h0_⟩
              have n1_ : Aside0 (Kd.R k25 25 w46 w.heap.size (fun k_ => some k_ ≠ (.slice Ao22 t112.length co22 : Value).ownBlock ∧ some k_ ≠ (.slice (some ad121) t118.length co19 : Value).ownBlock ∧ some k_ ≠ (.slice Ao39 t125.length co39 : Value).ownBlock ∧ some k_ ≠ (.slice Ao43 t134.length co43 : Value).ownBlock ∧ some k_ ≠ (v142 : Value).ownBlock ∧ k_ ≠ gb111) (.slice Ao17 y115.length co17) y115) := ⟨h1_⟩
              have n2_ : Aside0 (Kd.R k25 25 w46 w.heap.size (fun k_ => some k_ ≠ (.slice Ao22 t112.length co22 : Value).ownBlock ∧ some k_ ≠ (.slice Ao17 y115.length co17 : Value).ownBlock ∧ some k_ ≠ (.slice Ao39 t125.length co39 : Value).ownBlock ∧ some k_ ≠ (.slice Ao43 t134.length co43 : Value).ownBlock ∧ some k_ ≠ (v142 : Value).ownBlock ∧ k_ ≠ gb111) (.slice (some ad121) t118.length co19) t118) := ⟨h2_⟩
              have n3_ : Aside0 (Kd.R k28 28 w46 w.heap.size (fun k_ => some k_ ≠ (.slice Ao38 t128.length co38 : Value).ownBlock ∧ some k_ ≠ (.slice Ao40 t131.length co40 : Value).ownBlock) (.slice Ao27 t122.length co27) t122) := ⟨h3_⟩
              have n4_ : Aside0 (Kd.R k25 25 w46 w.heap.size (fun k_ => some k_ ≠ (.slice Ao22 t112.length co22 : Value).ownBlock ∧ some k_ ≠ (.slice Ao17 y115.length co17 : Value).ownBlock ∧ some k_ ≠ (.slice (some ad121) t118.length co19 : Value).ownBlock ∧ some k_ ≠ (.slice Ao43 t134.length co43 : Value).ownBlock ∧ some k_ ≠ (v142 : Value).ownBlock ∧ k_ ≠ gb111) (.slice Ao39 t125.length co39) t125) := ⟨h4_⟩
              have n5_ : Aside0 (Kd.R k28 28 w46 w.heap.size (fun k_ => some k_ ≠ (.slice Ao27 t122.length co27 : Value).ownBlock ∧ some k_ ≠ (.slice Ao40 t131.length co40 : Value).ownBlock) (.slice Ao38 t128.length co38) t128) := ⟨h5_⟩
              have n6_ : Aside0 (Kd.R k28 28 w46 w.heap.size (fun k_ => some k_ ≠ (.slice Ao27 t122.length co27 : Value).ownBlock ∧ some k_ ≠ (.slice Ao38 t128.length co38 : Value).ownBlock) (.slice Ao40 t131.length co40) t131) := ⟨h6_⟩
              have n7_ : Aside0 (Kd.R k25 25 w46 w.heap.size (fun k_ => some k_ ≠ (.slice Ao22 t112.length co22 : Value).ownBlock ∧ some k_ ≠ (.slice Ao17 y115.length co17 : Value).ownBlock ∧ some k_ ≠ (.slice (some ad121) t118.length co19 : Value).ownBlock ∧ some k_ ≠ (.slice Ao39 t125.length co39 : Value).ownBlock ∧ some k_ ≠ (v142 : Value).ownBlock ∧ k_ ≠ gb111) (.slice Ao43 t134.length co43) t134) := ⟨h7_⟩
              have n8_ : Aside0 (Kd.R k25 25 w46 w.heap.size (fun k_ => some k_ ≠ (.slice Ao22 t112.length co22 : Value).ownBlock ∧ some k_ ≠ (.slice Ao17 y115.length co17 : Value).ownBlock ∧ some k_ ≠ (.slice (some ad121) t118.length co19 : Value).ownBlock ∧ some k_ ≠ (.slice Ao39 t125.length co39 : Value).ownBlock ∧ some k_ ≠ (.slice Ao43 t134.length co43 : Value).ownBlock ∧ k_ ≠ gb111) v142 y141) := ⟨h8_⟩
              have n9_ : Aside0 (w46.heap[gb111]? = some (.cells #[.string ((rd_T25 t118 0).f0), .string ((rd_T25 t118 0).f1)] 25 (0, 0))) := ⟨h9_⟩
              have n10_ : Aside0 (Below w.heap.size w w46) := ⟨h10_⟩
              clear HO114
              clear HO117
              clear HO120
              clear HO124
              clear HO127
              clear HO130
              clear HO133
              clear BK111
              clear HB
              clear h0_ h1_ h2_ h3_ h4_ h5_ h6_ h7_ h8_ h9_ h10_
              have HO114 := n0_
              have HO117 := n1_
              have HO120 := n2_
              have HO124 := n3_
              have HO127 := n4_
              have HO130 := n5_
              have HO133 := n6_
              have HO136 := n7_
              have HO143 := n8_
              have BK111 := n9_
              have HB := n10_
              clear n0_ n1_ n2_ n3_ n4_ n5_ n6_ n7_ n8_ n9_ n10_
              have hHeld : w46.cell? ⟨gb111, 0, none⟩ = some (.string ((rd_T25 t118 0).f0)) ∧ w46.cell? ⟨gb111, 1, none⟩ = some (.string ((rd_T25 t118 0).f1)) := hS_
              refine norm_ (a' := ?_) ?_ ?_
              rotate_left
              ·simp only [putAll, Act.put, List.setIfInBounds_toArray, List.set_cons_zero, List.set_cons_succ]
               rfl
              refine two_ (i := 7) (j := 12) (Ni := some 42) (Nj := some 47) #[true, true, true, true, true, true, true, true, true, true, false, true, false, false, false, false, false] #[true, true, true, true, true, true, true, false, true, true, false, true, true, false, false, false, false] rfl rfl rfl rfl (two_of HT_.out (by kernel_rfl)) (by decide) (by decide) (fun K hK => ?_) (fun K hK => ?_)
              ·skip
               refine goes_ Try.func25 (by kernel_rfl) rfl #[.slice Ao40 t131.length co40] (by rfl) rfl rfl (by (try simp only [List.map_toArray, List.map_cons, List.map_nil]); first | done | rfl | (simp only [List.length_drop, List.length_take]; rfl)) ?_
               with_reducible refine (PA.bulletinlaw09_Of.calls k _ _ t131 t138 _ ?side1 ?side2 A34.out).mono ?_
               (case side1 => repeat (first | exact (Kd.R_reads' HO133.out).2.2 | (with_reducible refine Kd.C_alloc ?_ _) | (with_reducible refine Kd.C_drewN ?_ _) | (with_reducible refine Kd.C_drew ?_)))
               (case side2 => exact (Kd.R_reads' HO133.out).2.1)
               rintro e w47 ⟨v139, rfl, ho0, hb⟩
               refine ⟨_, rfl, ?_⟩
               have n0_ := as0 (Kd.R_elder' HO114.out (Kd.R_base ho0) hb)
               have n1_ := as0 (Kd.R_elder' HO117.out (Kd.R_base ho0) hb)
               have n2_ := as0 (Kd.R_elder' HO120.out (Kd.R_base ho0) hb)
               have n3_ := as0 (Kd.R_below HO124.out hb)
               have n4_ := as0 (Kd.R_elder' HO127.out (Kd.R_base ho0) hb)
               have n5_ := as0 (Kd.R_below HO130.out hb)
               have n6_ := as0 (Kd.R_below HO133.out hb)
               have n7_ := as0 (Kd.R_elder' HO136.out (Kd.R_base ho0) hb)
               have n8_ := as0 (Kd.R_elder' HO143.out (Kd.R_base ho0) hb)
               have n9_ := as0 (Kd.R_lower (Kd.R_newB (Kd.R_new' (Kd.R_new' (Kd.R_new' (Kd.R_new' (Kd.R_new' (Kd.R_new' ho0 (Kd.R_lt HO114.out)) (Kd.R_lt HO117.out)) (Kd.R_lt HO120.out)) (Kd.R_lt HO127.out)) (Kd.R_lt HO136.out)) (Kd.R_lt HO143.out)) (g := gb111) (o := .cells #[.string ((rd_T25 t118 0).f0), .string ((rd_T25 t118 0).f1)] 25 (0, 0)) BK111.out) (below_size HB.out))
               have n10_ := as0 (blk_below (g := gb111) (o := .cells #[.string ((rd_T25 t118 0).f0), .string ((rd_T25 t118 0).f1)] 25 (0, 0)) BK111.out hb)
               have n11_ := as0 (below_step HB.out hb)
               clear HO114
               clear HO117
               clear HO120
               clear HO124
               clear HO127
               clear HO130
               clear HO133
               clear HO136
               clear HO143
               clear BK111
               clear HB
               have HO114 := n0_
               have HO117 := n1_
               have HO120 := n2_
               have HO124 := n3_
               have HO127 := n4_
               have HO130 := n5_
               have HO133 := n6_
               have HO136 := n7_
               have HO143 := n8_
               have HO140 := n9_
               have BK111 := n10_
               have HB := n11_
               clear n0_ n1_ n2_ n3_ n4_ n5_ n6_ n7_ n8_ n9_ n10_ n11_
               refine hK.out _ _ ⟨(blk_cell BK111.out 0).trans rfl, (blk_cell BK111.out 1).trans rfl⟩ (fun hHeld => ?_)
               clear hK K
               refine norm_ (a' := ?_) ?_ ?_
               rotate_left
               ·show Act.put _ (some 42) _ = _
                simp only [Act.put, List.setIfInBounds_toArray, List.set_cons_zero, List.set_cons_succ, i64_w, i32_w]
                rfl
               exact norm_ (by first | (simp only [putAll, Act.put, List.setIfInBounds_toArray, List.set_cons_zero, List.set_cons_succ]; done) | (simp only [putAll, Act.put, List.setIfInBounds_toArray, List.set_cons_zero, List.set_cons_succ]; rfl)) (hJ7_8 (v139, v142) _ ⟨hHeld, (by (with_reducible repeat (first | apply Kd.R_alloc | apply Kd.R_drewN | apply Kd.R_drew)); exact Kd.R_mono HO114.out (fun _ hk => ⟨hk.1.1, ⟨hk.1.2.1, ⟨hk.1.2.2.1, ⟨hk.1.2.2.2.1, ⟨hk.2, ⟨hk.1.2.2.2.2.1, hk.1.2.2.2.2.2⟩⟩⟩⟩⟩⟩)), (by (with_reducible repeat (first | apply Kd.R_alloc | apply Kd.R_drewN | apply Kd.R_drew)); exact Kd.R_mono HO117.out (fun _ hk => ⟨hk.1.1, ⟨hk.1.2.1, ⟨hk.1.2.2.1, ⟨hk.1.2.2.2.1, ⟨hk.2, ⟨hk.1.2.2.2.2.1, hk.1.2.2.2.2.2⟩⟩⟩⟩⟩⟩)), (by (with_reducible repeat (first | apply Kd.R_alloc | apply Kd.R_drewN | apply Kd.R_drew)); exact Kd.R_mono HO120.out (fun _ hk => ⟨hk.1.1, ⟨hk.1.2.1, ⟨hk.1.2.2.1, ⟨hk.1.2.2.2.1, ⟨hk.2, ⟨hk.1.2.2.2.2.1, hk.1.2.2.2.2.2⟩⟩⟩⟩⟩⟩)), HO124.out, (by (with_reducible repeat (first | apply Kd.R_alloc | apply Kd.R_drewN | apply Kd.R_drew)); exact Kd.R_mono HO127.out (fun _ hk => ⟨hk.1.1, ⟨hk.1.2.1, ⟨hk.1.2.2.1, ⟨hk.1.2.2.2.1, ⟨hk.2, ⟨hk.1.2.2.2.2.1, hk.1.2.2.2.2.2⟩⟩⟩⟩⟩⟩)), HO130.out, HO133.out, (by (with_reducible repeat (first | apply Kd.R_alloc | apply Kd.R_drewN | apply Kd.R_drew)); exact Kd.R_mono HO136.out (fun _ hk => ⟨hk.1.1, ⟨hk.1.2.1, ⟨hk.1.2.2.1, ⟨hk.1.2.2.2.1, ⟨hk.2, ⟨hk.1.2.2.2.2.1, hk.1.2.2.2.2.2⟩⟩⟩⟩⟩⟩)), (by (with_reducible repeat (first | apply Kd.R_alloc | apply Kd.R_drewN | apply Kd.R_drew)); exact Kd.R_mono HO140.out (fun _ hk => ⟨hk.1.1.1.1.1.1.2, ⟨hk.1.1.1.1.1.2, ⟨hk.1.1.1.1.2, ⟨hk.1.1.1.2, ⟨hk.1.1.2, ⟨hk.1.2, hk.2⟩⟩⟩⟩⟩⟩)), (by (with_reducible repeat (first | apply Kd.R_alloc | apply Kd.R_drewN | apply Kd.R_drew)); exact Kd.R_mono HO143.out (fun _ hk => ⟨hk.1.1, ⟨hk.1.2.1, ⟨hk.1.2.2.1, ⟨hk.1.2.2.2.1, ⟨hk.1.2.2.2.2.1, ⟨hk.2, hk.1.2.2.2.2.2⟩⟩⟩⟩⟩⟩)), BK111.out, HB.out⟩)
              ·skip
               refine Kd.R_lit_step k25 _ 25 ?hg (N := 47) ?hd (xs := ([(⟨(rd_T25 t118 0).f0, (rd_T25 t118 0).f1⟩ : S25)] : List (S25))) (inner := [.string ((rd_T25 t118 0).f0), .string ((rd_T25 t118 0).f1)]) (ok := fun _ => True) (okp := fun _ => True) ?hr ?hp (fun _ hk => hk) trivial (Below.refl _ _) (Nat.le_refl _) (by simp) ?_; (case hd => rfl); (case hg => rfl); (case hr => first | (go_simp; done) | (go_simp; rfl)); (case hp => exact (Reps.c2 (show Kd.M k25 _ _ _ (⟨(rd_T25 t118 0).f0, (rd_T25 t118 0).f1⟩ : S25) [.string ((rd_T25 t118 0).f0), .string ((rd_T25 t118 0).f1)] from (k25_mkM _ _ _ (⟨(rd_T25 t118 0).f0, (rd_T25 t118 0).f1⟩ : S25) )) (Reps.none _ _)))
               intro v148 w47 ho48 hb hg_ hnew_
               clear hg_ hnew_
               (first | rw [← Ny147.out] at ho48 | (simp only [Int.reduceToNat] at ho48; rw [← Ny147.out] at ho48))
               have n0_ := as0 (Kd.R_elder' HO114.out (Kd.R_base ho48) hb)
               have n1_ := as0 (Kd.R_elder' HO117.out (Kd.R_base ho48) hb)
               have n2_ := as0 (Kd.R_elder' HO120.out (Kd.R_base ho48) hb)
               have n3_ := as0 (Kd.R_below HO124.out hb)
               have n4_ := as0 (Kd.R_elder' HO127.out (Kd.R_base ho48) hb)
               have n5_ := as0 (Kd.R_below HO130.out hb)
               have n6_ := as0 (Kd.R_below HO133.out hb)
               have n7_ := as0 (Kd.R_elder' HO136.out (Kd.R_base ho48) hb)
               have n8_ := as0 (Kd.R_elder' HO143.out (Kd.R_base ho48) hb)
               have n9_ := as0 (Kd.R_lower (Kd.R_newB (Kd.R_new' (Kd.R_new' (Kd.R_new' (Kd.R_new' (Kd.R_new' (Kd.R_new' ho48 (Kd.R_lt HO114.out)) (Kd.R_lt HO117.out)) (Kd.R_lt HO120.out)) (Kd.R_lt HO127.out)) (Kd.R_lt HO136.out)) (Kd.R_lt HO143.out)) (g := gb111) (o := .cells #[.string ((rd_T25 t118 0).f0), .string ((rd_T25 t118 0).f1)] 25 (0, 0)) BK111.out) (below_size HB.out))
               have n10_ := as0 (blk_below (g := gb111) (o := .cells #[.string ((rd_T25 t118 0).f0), .string ((rd_T25 t118 0).f1)] 25 (0, 0)) BK111.out hb)
               have n11_ := as0 (below_step HB.out hb)
               clear HO114
               clear HO117
               clear HO120
               clear HO124
               clear HO127
               clear HO130
               clear HO133
               clear HO136
               clear HO143
               clear BK111
               clear HB
               have HO114 := n0_
               have HO117 := n1_
               have HO120 := n2_
               have HO124 := n3_
               have HO127 := n4_
               have HO130 := n5_
               have HO133 := n6_
               have HO136 := n7_
               have HO143 := n8_
               have HO149 := n9_
               have BK111 := n10_
               have HB := n11_
               clear n0_ n1_ n2_ n3_ n4_ n5_ n6_ n7_ n8_ n9_ n10_ n11_
               clear hb ho48
               refine hK.out _ _ ⟨(blk_cell BK111.out 0).trans rfl, (blk_cell BK111.out 1).trans rfl⟩ (fun hHeld => ?_)
               clear hK K
               refine norm_ (a' := ?_) ?_ ?_
               rotate_left
               ·show Act.put _ (some 47) _ = _
                simp only [Act.put, List.setIfInBounds_toArray, List.set_cons_zero, List.set_cons_succ, i64_w, i32_w]
                rfl
               exact norm_ (by first | (simp only [putAll, Act.put, List.setIfInBounds_toArray, List.set_cons_zero, List.set_cons_succ]; done) | (simp only [putAll, Act.put, List.setIfInBounds_toArray, List.set_cons_zero, List.set_cons_succ]; rfl)) (hJ8_12 (v142, v148) _ ⟨hHeld, (by (with_reducible repeat (first | apply Kd.R_alloc | apply Kd.R_drewN | apply Kd.R_drew)); exact Kd.R_mono HO114.out (fun _ hk => ⟨hk.1.1, ⟨hk.1.2.1, ⟨hk.1.2.2.1, ⟨hk.1.2.2.2.1, ⟨hk.1.2.2.2.2.1, ⟨hk.2, hk.1.2.2.2.2.2⟩⟩⟩⟩⟩⟩)), (by (with_reducible repeat (first | apply Kd.R_alloc | apply Kd.R_drewN | apply Kd.R_drew)); exact Kd.R_mono HO117.out (fun _ hk => ⟨hk.1.1, ⟨hk.1.2.1, ⟨hk.1.2.2.1, ⟨hk.1.2.2.2.1, ⟨hk.1.2.2.2.2.1, ⟨hk.2, hk.1.2.2.2.2.2⟩⟩⟩⟩⟩⟩)), (by (with_reducible repeat (first | apply Kd.R_alloc | apply Kd.R_drewN | apply Kd.R_drew)); exact Kd.R_mono HO120.out (fun _ hk => ⟨hk.1.1, ⟨hk.1.2.1, ⟨hk.1.2.2.1, ⟨hk.1.2.2.2.1, ⟨hk.1.2.2.2.2.1, ⟨hk.2, hk.1.2.2.2.2.2⟩⟩⟩⟩⟩⟩)), HO124.out, (by (with_reducible repeat (first | apply Kd.R_alloc | apply Kd.R_drewN | apply Kd.R_drew)); exact Kd.R_mono HO127.out (fun _ hk => ⟨hk.1.1, ⟨hk.1.2.1, ⟨hk.1.2.2.1, ⟨hk.1.2.2.2.1, ⟨hk.1.2.2.2.2.1, ⟨hk.2, hk.1.2.2.2.2.2⟩⟩⟩⟩⟩⟩)), HO130.out, HO133.out, (by (with_reducible repeat (first | apply Kd.R_alloc | apply Kd.R_drewN | apply Kd.R_drew)); exact Kd.R_mono HO136.out (fun _ hk => ⟨hk.1.1, ⟨hk.1.2.1, ⟨hk.1.2.2.1, ⟨hk.1.2.2.2.1, ⟨hk.1.2.2.2.2.1, ⟨hk.2, hk.1.2.2.2.2.2⟩⟩⟩⟩⟩⟩)), (by (with_reducible repeat (first | apply Kd.R_alloc | apply Kd.R_drewN | apply Kd.R_drew)); exact Kd.R_mono HO143.out (fun _ hk => ⟨hk.1.1, ⟨hk.1.2.1, ⟨hk.1.2.2.1, ⟨hk.1.2.2.2.1, ⟨hk.1.2.2.2.2.1, ⟨hk.2, hk.1.2.2.2.2.2⟩⟩⟩⟩⟩⟩)), (by (with_reducible repeat (first | apply Kd.R_alloc | apply Kd.R_drewN | apply Kd.R_drew)); exact Kd.R_mono HO149.out (fun _ hk => ⟨hk.1.1.1.1.1.1.2, ⟨hk.1.1.1.1.1.2, ⟨hk.1.1.1.1.2, ⟨hk.1.1.1.2, ⟨hk.1.1.2, ⟨hk.1.2, hk.2⟩⟩⟩⟩⟩⟩)), BK111.out, HB.out⟩)
            ·skip
             rintro v139 w45 ⟨hS_, h0_, h1_, h2_, h3_, h4_, h5_, h6_, h7_, h8_, h9_, h10_⟩
             have n0_ : Aside0 (Kd.R k25 25 w45 w.heap.size (fun k_ => some k_ ≠ (.slice Ao17 y115.length co17 : Value).ownBlock ∧ some k_ ≠ (.slice (some ad121) t118.length co19 : Value).ownBlock ∧ some k_ ≠ (.slice Ao39 t125.length co39 : Value).ownBlock ∧ some k_ ≠ (.slice Ao43 t134.length co43 : Value).ownBlock ∧ some k_ ≠ (v139 : Value).ownBlock ∧ k_ ≠ gb111) (.slice Ao22 t112.length co22) t112) := ⟨h0_⟩
             have n1_ : Aside0 (Kd.R k25 25 w45 w.heap.size (fun k_ => some k_ ≠ (.slice Ao22 t112.length co22 : Value).ownBlock ∧ some k_ ≠ (.slice (some ad121) t118.length co19 : Value).ownBlock ∧ some k_ ≠ (.slice Ao39 t125.length co39 : Value).ownBlock ∧ some k_ ≠ (.slice Ao43 t134.length co43 : Value).ownBlock ∧ some k_ ≠ (v139 : Value).ownBlock ∧ k_ ≠ gb111) (.slice Ao17 y115.length co17) y115) := ⟨h1_⟩
             have n2_ : Aside0 (Kd.R k25 25 w45 w.heap.size (fun k_ => some k_ ≠ (.slice Ao22 t112.length co22 : Value).ownBlock ∧ some k_ ≠ (.slice Ao17 y115.length co17 : Value).ownBlock ∧ some k_ ≠ (.slice Ao39 t125.length co39 : Value).ownBlock ∧ some k_ ≠ (.slice Ao43 t134.length co43 : Value).ownBlock ∧ some k_ ≠ (v139 : Value).ownBlock ∧ k_ ≠ gb111) (.slice (some ad121) t118.length co19) t118) := ⟨h2_⟩
             have n3_ : Aside0 (Kd.R k28 28 w45 w.heap.size (fun k_ => some k_ ≠ (.slice Ao38 t128.length co38 : Value).ownBlock ∧ some k_ ≠ (.slice Ao40 t131.length co40 : Value).ownBlock) (.slice Ao27 t122.length co27) t122) := ⟨h3_⟩
             have n4_ : Aside0 (Kd.R k25 25 w45 w.heap.size (fun k_ => some k_ ≠ (.slice Ao22 t112.length co22 : Value).ownBlock ∧ some k_ ≠ (.slice Ao17 y115.length co17 : Value).ownBlock ∧ some k_ ≠ (.slice (some ad121) t118.length co19 : Value).ownBlock ∧ some k_ ≠ (.slice Ao43 t134.length co43 : Value).ownBlock ∧ some k_ ≠ (v139 : Value).ownBlock ∧ k_ ≠ gb111) (.slice Ao39 t125.length co39) t125) := ⟨h4_⟩
             have n5_ : Aside0 (Kd.R k28 28 w45 w.heap.size (fun k_ => some k_ ≠ (.slice Ao27 t122.length co27 : Value).ownBlock ∧ some k_ ≠ (.slice Ao40 t131.length co40 : Value).ownBlock) (.slice Ao38 t128.length co38) t128) := ⟨h5_⟩
             have n6_ : Aside0 (Kd.R k28 28 w45 w.heap.size (fun k_ => some k_ ≠ (.slice Ao27 t122.length co27 : Value).ownBlock ∧ some k_ ≠ (.slice Ao38 t128.length co38 : Value).ownBlock) (.slice Ao40 t131.length co40) t131) := ⟨h6_⟩
             have n7_ : Aside0 (Kd.R k25 25 w45 w.heap.size (fun k_ => some k_ ≠ (.slice Ao22 t112.length co22 : Value).ownBlock ∧ some k_ ≠ (.slice Ao17 y115.length co17 : Value).ownBlock ∧ some k_ ≠ (.slice (some ad121) t118.length co19 : Value).ownBlock ∧ some k_ ≠ (.slice Ao39 t125.length co39 : Value).ownBlock ∧ some k_ ≠ (v139 : Value).ownBlock ∧ k_ ≠ gb111) (.slice Ao43 t134.length co43) t134) := ⟨h7_⟩
             have n8_ : Aside0 (Kd.R k25 25 w45 w.heap.size (fun k_ => some k_ ≠ (.slice Ao22 t112.length co22 : Value).ownBlock ∧ some k_ ≠ (.slice Ao17 y115.length co17 : Value).ownBlock ∧ some k_ ≠ (.slice (some ad121) t118.length co19 : Value).ownBlock ∧ some k_ ≠ (.slice Ao39 t125.length co39 : Value).ownBlock ∧ some k_ ≠ (.slice Ao43 t134.length co43 : Value).ownBlock ∧ k_ ≠ gb111) v139 t138) := ⟨h8_⟩
             have n9_ : Aside0 (w45.heap[gb111]? = some (.cells #[.string ((rd_T25 t118 0).f0), .string ((rd_T25 t118 0).f1)] 25 (0, 0))) := ⟨h9_⟩
             have n10_ : Aside0 (Below w.heap.size w w45) := ⟨h10_⟩
             clear HO114
             clear HO117
             clear HO120
             clear HO124
             clear HO127
             clear HO130
             clear HO133
             clear BK111
             clear HB
             clear h0_ h1_ h2_ h3_ h4_ h5_ h6_ h7_ h8_ h9_ h10_
             have HO114 := n0_
             have HO117 := n1_
             have HO120 := n2_
             have HO124 := n3_
             have HO127 := n4_
             have HO130 := n5_
             have HO133 := n6_
             have HO136 := n7_
             have HO140 := n8_
             have BK111 := n9_
             have HB := n10_
             clear n0_ n1_ n2_ n3_ n4_ n5_ n6_ n7_ n8_ n9_ n10_
             have hHeld : w45.cell? ⟨gb111, 0, none⟩ = some (.string ((rd_T25 t118 0).f0)) ∧ w45.cell? ⟨gb111, 1, none⟩ = some (.string ((rd_T25 t118 0).f1)) := hS_
             refine norm_ (a' := ?_) ?_ ?_
             rotate_left
             ·simp only [putAll, Act.put, List.setIfInBounds_toArray, List.set_cons_zero, List.set_cons_succ]
              rfl
             refine two_ (i := 8) (j := 12) (Ni := some 43) (Nj := some 47) #[true, true, true, true, true, true, true, true, true, true, false, true, false, false, false, false, false] #[true, true, true, true, true, true, true, true, false, true, false, true, true, false, false, false, false] rfl rfl rfl rfl (two_of HT_.out (by kernel_rfl)) (by decide) (by decide) (fun K hK => ?_) (fun K hK => ?_)
             ·skip
              refine Kd.R_lit_step k25 _ 25 ?hg (N := 43) ?hd (xs := ([] : List (S25))) (inner := []) (ok := fun _ => True) (okp := fun _ => True) ?hr ?hp (fun _ hk => hk) trivial (Below.refl _ _) (Nat.le_refl _) (by simp) ?_; (case hd => rfl); (case hg => rfl); (case hr => first | (go_simp; done) | (go_simp; rfl)); (case hp => exact (Reps.none _ _))
              intro v142 w46 ho47 hb hg_ hnew_
              clear hg_ hnew_
              (first | rw [← Ny141.out] at ho47 | (simp only [Int.reduceToNat] at ho47; rw [← Ny141.out] at ho47))
              have n0_ := as0 (Kd.R_elder' HO114.out (Kd.R_base ho47) hb)
              have n1_ := as0 (Kd.R_elder' HO117.out (Kd.R_base ho47) hb)
              have n2_ := as0 (Kd.R_elder' HO120.out (Kd.R_base ho47) hb)
              have n3_ := as0 (Kd.R_below HO124.out hb)
              have n4_ := as0 (Kd.R_elder' HO127.out (Kd.R_base ho47) hb)
              have n5_ := as0 (Kd.R_below HO130.out hb)
              have n6_ := as0 (Kd.R_below HO133.out hb)
              have n7_ := as0 (Kd.R_elder' HO136.out (Kd.R_base ho47) hb)
              have n8_ := as0 (Kd.R_elder' HO140.out (Kd.R_base ho47) hb)
              have n9_ := as0 (Kd.R_lower (Kd.R_newB (Kd.R_new' (Kd.R_new' (Kd.R_new' (Kd.R_new' (Kd.R_new' (Kd.R_new' ho47 (Kd.R_lt HO114.out)) (Kd.R_lt HO117.out)) (Kd.R_lt HO120.out)) (Kd.R_lt HO127.out)) (Kd.R_lt HO136.out)) (Kd.R_lt HO140.out)) (g := gb111) (o := .cells #[.string ((rd_T25 t118 0).f0), .string ((rd_T25 t118 0).f1)] 25 (0, 0)) BK111.out) (below_size HB.out))
              have n10_ := as0 (blk_below (g := gb111) (o := .cells #[.string ((rd_T25 t118 0).f0), .string ((rd_T25 t118 0).f1)] 25 (0, 0)) BK111.out hb)
              have n11_ := as0 (below_step HB.out hb)
              clear HO114
              clear HO117
              clear HO120
              clear HO124
              clear HO127
              clear HO130
              clear HO133
              clear HO136
              clear HO140
              clear BK111
              clear HB
              have HO114 := n0_
              have HO117 := n1_
              have HO120 := n2_
              have HO124 := n3_
              have HO127 := n4_
              have HO130 := n5_
              have HO133 := n6_
              have HO136 := n7_
              have HO140 := n8_
              have HO143 := n9_
              have BK111 := n10_
              have HB := n11_
              clear n0_ n1_ n2_ n3_ n4_ n5_ n6_ n7_ n8_ n9_ n10_ n11_
              clear hb ho47
              refine hK.out _ _ ⟨(blk_cell BK111.out 0).trans rfl, (blk_cell BK111.out 1).trans rfl⟩ (fun hHeld => ?_)
              clear hK K
              refine norm_ (a' := ?_) ?_ ?_
              rotate_left
              ·show Act.put _ (some 43) _ = _
               simp only [Act.put, List.setIfInBounds_toArray, List.set_cons_zero, List.set_cons_succ, i64_w, i32_w]
               rfl
              exact norm_ (by first | (simp only [putAll, Act.put, List.setIfInBounds_toArray, List.set_cons_zero, List.set_cons_succ]; done) | (simp only [putAll, Act.put, List.setIfInBounds_toArray, List.set_cons_zero, List.set_cons_succ]; rfl)) (hJ7_8 (v139, v142) _ ⟨hHeld, (by (with_reducible repeat (first | apply Kd.R_alloc | apply Kd.R_drewN | apply Kd.R_drew)); exact Kd.R_mono HO114.out (fun _ hk => ⟨hk.1.1, ⟨hk.1.2.1, ⟨hk.1.2.2.1, ⟨hk.1.2.2.2.1, ⟨hk.1.2.2.2.2.1, ⟨hk.2, hk.1.2.2.2.2.2⟩⟩⟩⟩⟩⟩)), (by (with_reducible repeat (first | apply Kd.R_alloc | apply Kd.R_drewN | apply Kd.R_drew)); exact Kd.R_mono HO117.out (fun _ hk => ⟨hk.1.1, ⟨hk.1.2.1, ⟨hk.1.2.2.1, ⟨hk.1.2.2.2.1, ⟨hk.1.2.2.2.2.1, ⟨hk.2, hk.1.2.2.2.2.2⟩⟩⟩⟩⟩⟩)), (by (with_reducible repeat (first | apply Kd.R_alloc | apply Kd.R_drewN | apply Kd.R_drew)); exact Kd.R_mono HO120.out (fun _ hk => ⟨hk.1.1, ⟨hk.1.2.1, ⟨hk.1.2.2.1, ⟨hk.1.2.2.2.1, ⟨hk.1.2.2.2.2.1, ⟨hk.2, hk.1.2.2.2.2.2⟩⟩⟩⟩⟩⟩)), HO124.out, (by (with_reducible repeat (first | apply Kd.R_alloc | apply Kd.R_drewN | apply Kd.R_drew)); exact Kd.R_mono HO127.out (fun _ hk => ⟨hk.1.1, ⟨hk.1.2.1, ⟨hk.1.2.2.1, ⟨hk.1.2.2.2.1, ⟨hk.1.2.2.2.2.1, ⟨hk.2, hk.1.2.2.2.2.2⟩⟩⟩⟩⟩⟩)), HO130.out, HO133.out, (by (with_reducible repeat (first | apply Kd.R_alloc | apply Kd.R_drewN | apply Kd.R_drew)); exact Kd.R_mono HO136.out (fun _ hk => ⟨hk.1.1, ⟨hk.1.2.1, ⟨hk.1.2.2.1, ⟨hk.1.2.2.2.1, ⟨hk.1.2.2.2.2.1, ⟨hk.2, hk.1.2.2.2.2.2⟩⟩⟩⟩⟩⟩)), (by (with_reducible repeat (first | apply Kd.R_alloc | apply Kd.R_drewN | apply Kd.R_drew)); exact Kd.R_mono HO140.out (fun _ hk => ⟨hk.1.1, ⟨hk.1.2.1, ⟨hk.1.2.2.1, ⟨hk.1.2.2.2.1, ⟨hk.1.2.2.2.2.1, ⟨hk.2, hk.1.2.2.2.2.2⟩⟩⟩⟩⟩⟩)), (by (with_reducible repeat (first | apply Kd.R_alloc | apply Kd.R_drewN | apply Kd.R_drew)); exact Kd.R_mono HO143.out (fun _ hk => ⟨hk.1.1.1.1.1.1.2, ⟨hk.1.1.1.1.1.2, ⟨hk.1.1.1.1.2, ⟨hk.1.1.1.2, ⟨hk.1.1.2, ⟨hk.1.2, hk.2⟩⟩⟩⟩⟩⟩)), BK111.out, HB.out⟩)
             ·skip
              refine Kd.R_lit_step k25 _ 25 ?hg (N := 47) ?hd (xs := ([(⟨(rd_T25 t118 0).f0, (rd_T25 t118 0).f1⟩ : S25)] : List (S25))) (inner := [.string ((rd_T25 t118 0).f0), .string ((rd_T25 t118 0).f1)]) (ok := fun _ => True) (okp := fun _ => True) ?hr ?hp (fun _ hk => hk) trivial (Below.refl _ _) (Nat.le_refl _) (by simp) ?_; (case hd => rfl); (case hg => rfl); (case hr => first | (go_simp; done) | (go_simp; rfl)); (case hp => exact (Reps.c2 (show Kd.M k25 _ _ _ (⟨(rd_T25 t118 0).f0, (rd_T25 t118 0).f1⟩ : S25) [.string ((rd_T25 t118 0).f0), .string ((rd_T25 t118 0).f1)] from (k25_mkM _ _ _ (⟨(rd_T25 t118 0).f0, (rd_T25 t118 0).f1⟩ : S25) )) (Reps.none _ _)))
              intro v148 w46 ho47 hb hg_ hnew_
              clear hg_ hnew_
              (first | rw [← Ny147.out] at ho47 | (simp only [Int.reduceToNat] at ho47; rw [← Ny147.out] at ho47))
              have n0_ := as0 (Kd.R_elder' HO114.out (Kd.R_base ho47) hb)
              have n1_ := as0 (Kd.R_elder' HO117.out (Kd.R_base ho47) hb)
              have n2_ := as0 (Kd.R_elder' HO120.out (Kd.R_base ho47) hb)
              have n3_ := as0 (Kd.R_below HO124.out hb)
              have n4_ := as0 (Kd.R_elder' HO127.out (Kd.R_base ho47) hb)
              have n5_ := as0 (Kd.R_below HO130.out hb)
              have n6_ := as0 (Kd.R_below HO133.out hb)
              have n7_ := as0 (Kd.R_elder' HO136.out (Kd.R_base ho47) hb)
              have n8_ := as0 (Kd.R_elder' HO140.out (Kd.R_base ho47) hb)
              have n9_ := as0 (Kd.R_lower (Kd.R_newB (Kd.R_new' (Kd.R_new' (Kd.R_new' (Kd.R_new' (Kd.R_new' (Kd.R_new' ho47 (Kd.R_lt HO114.out)) (Kd.R_lt HO117.out)) (Kd.R_lt HO120.out)) (Kd.R_lt HO127.out)) (Kd.R_lt HO136.out)) (Kd.R_lt HO140.out)) (g := gb111) (o := .cells #[.string ((rd_T25 t118 0).f0), .string ((rd_T25 t118 0).f1)] 25 (0, 0)) BK111.out) (below_size HB.out))
              have n10_ := as0 (blk_below (g := gb111) (o := .cells #[.string ((rd_T25 t118 0).f0), .string ((rd_T25 t118 0).f1)] 25 (0, 0)) BK111.out hb)
              have n11_ := as0 (below_step HB.out hb)
              clear HO114
              clear HO117
              clear HO120
              clear HO124
              clear HO127
              clear HO130
              clear HO133
              clear HO136
              clear HO140
              clear BK111
              clear HB
              have HO114 := n0_
              have HO117 := n1_
              have HO120 := n2_
              have HO124 := n3_
              have HO127 := n4_
              have HO130 := n5_
              have HO133 := n6_
              have HO136 := n7_
              have HO140 := n8_
              have HO149 := n9_
              have BK111 := n10_
              have HB := n11_
              clear n0_ n1_ n2_ n3_ n4_ n5_ n6_ n7_ n8_ n9_ n10_ n11_
              clear hb ho47
              refine hK.out _ _ ⟨(blk_cell BK111.out 0).trans rfl, (blk_cell BK111.out 1).trans rfl⟩ (fun hHeld => ?_)
              clear hK K
              refine norm_ (a' := ?_) ?_ ?_
              rotate_left
              ·show Act.put _ (some 47) _ = _
               simp only [Act.put, List.setIfInBounds_toArray, List.set_cons_zero, List.set_cons_succ, i64_w, i32_w]
               rfl
              exact norm_ (by first | (simp only [putAll, Act.put, List.setIfInBounds_toArray, List.set_cons_zero, List.set_cons_succ]; done) | (simp only [putAll, Act.put, List.setIfInBounds_toArray, List.set_cons_zero, List.set_cons_succ]; rfl)) (hJ7_12 (v139, v148) _ ⟨hHeld, (by (with_reducible repeat (first | apply Kd.R_alloc | apply Kd.R_drewN | apply Kd.R_drew)); exact Kd.R_mono HO114.out (fun _ hk => ⟨hk.1.1, ⟨hk.1.2.1, ⟨hk.1.2.2.1, ⟨hk.1.2.2.2.1, ⟨hk.1.2.2.2.2.1, ⟨hk.2, hk.1.2.2.2.2.2⟩⟩⟩⟩⟩⟩)), (by (with_reducible repeat (first | apply Kd.R_alloc | apply Kd.R_drewN | apply Kd.R_drew)); exact Kd.R_mono HO117.out (fun _ hk => ⟨hk.1.1, ⟨hk.1.2.1, ⟨hk.1.2.2.1, ⟨hk.1.2.2.2.1, ⟨hk.1.2.2.2.2.1, ⟨hk.2, hk.1.2.2.2.2.2⟩⟩⟩⟩⟩⟩)), (by (with_reducible repeat (first | apply Kd.R_alloc | apply Kd.R_drewN | apply Kd.R_drew)); exact Kd.R_mono HO120.out (fun _ hk => ⟨hk.1.1, ⟨hk.1.2.1, ⟨hk.1.2.2.1, ⟨hk.1.2.2.2.1, ⟨hk.1.2.2.2.2.1, ⟨hk.2, hk.1.2.2.2.2.2⟩⟩⟩⟩⟩⟩)), HO124.out, (by (with_reducible repeat (first | apply Kd.R_alloc | apply Kd.R_drewN | apply Kd.R_drew)); exact Kd.R_mono HO127.out (fun _ hk => ⟨hk.1.1, ⟨hk.1.2.1, ⟨hk.1.2.2.1, ⟨hk.1.2.2.2.1, ⟨hk.1.2.2.2.2.1, ⟨hk.2, hk.1.2.2.2.2.2⟩⟩⟩⟩⟩⟩)), HO130.out, HO133.out, (by (with_reducible repeat (first | apply Kd.R_alloc | apply Kd.R_drewN | apply Kd.R_drew)); exact Kd.R_mono HO136.out (fun _ hk => ⟨hk.1.1, ⟨hk.1.2.1, ⟨hk.1.2.2.1, ⟨hk.1.2.2.2.1, ⟨hk.1.2.2.2.2.1, ⟨hk.2, hk.1.2.2.2.2.2⟩⟩⟩⟩⟩⟩)), (by (with_reducible repeat (first | apply Kd.R_alloc | apply Kd.R_drewN | apply Kd.R_drew)); exact Kd.R_mono HO140.out (fun _ hk => ⟨hk.1.1, ⟨hk.1.2.1, ⟨hk.1.2.2.1, ⟨hk.1.2.2.2.1, ⟨hk.1.2.2.2.2.1, ⟨hk.2, hk.1.2.2.2.2.2⟩⟩⟩⟩⟩⟩)), (by (with_reducible repeat (first | apply Kd.R_alloc | apply Kd.R_drewN | apply Kd.R_drew)); exact Kd.R_mono HO149.out (fun _ hk => ⟨hk.1.1.1.1.1.1.2, ⟨hk.1.1.1.1.1.2, ⟨hk.1.1.1.1.2, ⟨hk.1.1.1.2, ⟨hk.1.1.2, ⟨hk.1.2, hk.2⟩⟩⟩⟩⟩⟩)), BK111.out, HB.out⟩)
           ·skip
            rintro ⟨v142, v148⟩ w48 ⟨hS_, h0_, h1_, h2_, h3_, h4_, h5_, h6_, h7_, h8_, h9_, h10_, h11_⟩
            have n0_ : Aside0 (Kd.R k25 25 w48 w.heap.size (fun k_ => some k_ ≠ (.slice Ao17 y115.length co17 : Value).ownBlock ∧ some k_ ≠ (.slice (some ad121) t118.length co19 : Value).ownBlock ∧ some k_ ≠ (.slice Ao39 t125.length co39 : Value).ownBlock ∧ some k_ ≠ (.slice Ao43 t134.length co43 : Value).ownBlock ∧ some k_ ≠ (v142 : Value).ownBlock ∧ some k_ ≠ (v148 : Value).ownBlock ∧ k_ ≠ gb111) (.slice Ao22 t112.length co22) t112) := ⟨h0_⟩
            have n1_ : Aside0 (Kd.R k25 25 w48 w.heap.size (fun k_ => some k_ ≠ (.slice Ao22 t112.length co22 : Value).ownBlock ∧ some k_ ≠ (.slice (some ad121) t118.length co19 : Value).ownBlock ∧ some k_ ≠ (.slice Ao39 t125.length co39 : Value).ownBlock ∧ some k_ ≠ (.slice Ao43 t134.length co43 : Value).ownBlock ∧ some k_ ≠ (v142 : Value).ownBlock ∧ some k_ ≠ (v148 : Value).ownBlock ∧ k_ ≠ gb111) (.slice Ao17 y115.length co17) y115) := ⟨h1_⟩
            have n2_ : Aside0 (Kd.R k25 25 w48 w.heap.size (fun k_ => some k_ ≠ (.slice Ao22 t112.length co22 : Value).ownBlock ∧ some k_ ≠ (.slice Ao17 y115.length co17 : Value).ownBlock ∧ some k_ ≠ (.slice Ao39 t125.length co39 : Value).ownBlock ∧ some k_ ≠ (.slice Ao43 t134.length co43 : Value).ownBlock ∧ some k_ ≠ (v142 : Value).ownBlock ∧ some k_ ≠ (v148 : Value).ownBlock ∧ k_ ≠ gb111) (.slice (some ad121) t118.length co19) t118) := ⟨h2_⟩
            have n3_ : Aside0 (Kd.R k28 28 w48 w.heap.size (fun k_ => some k_ ≠ (.slice Ao38 t128.length co38 : Value).ownBlock ∧ some k_ ≠ (.slice Ao40 t131.length co40 : Value).ownBlock) (.slice Ao27 t122.length co27) t122) := ⟨h3_⟩
            have n4_ : Aside0 (Kd.R k25 25 w48 w.heap.size (fun k_ => some k_ ≠ (.slice Ao22 t112.length co22 : Value).ownBlock ∧ some k_ ≠ (.slice Ao17 y115.length co17 : Value).ownBlock ∧ some k_ ≠ (.slice (some ad121) t118.length co19 : Value).ownBlock ∧ some k_ ≠ (.slice Ao43 t134.length co43 : Value).ownBlock ∧ some k_ ≠ (v142 : Value).ownBlock ∧ some k_ ≠ (v148 : Value).ownBlock ∧ k_ ≠ gb111) (.slice Ao39 t125.length co39) t125) := ⟨h4_⟩
            have n5_ : Aside0 (Kd.R k28 28 w48 w.heap.size (fun k_ => some k_ ≠ (.slice Ao27 t122.length co27 : Value).ownBlock ∧ some k_ ≠ (.slice Ao40 t131.length co40 : Value).ownBlock) (.slice Ao38 t128.length co38) t128) := ⟨h5_⟩
            have n6_ : Aside0 (Kd.R k28 28 w48 w.heap.size (fun k_ => some k_ ≠ (.slice Ao27 t122.length co27 : Value).ownBlock ∧ some k_ ≠ (.slice Ao38 t128.length co38 : Value).ownBlock) (.slice Ao40 t131.length co40) t131) := ⟨h6_⟩
            have n7_ : Aside0 (Kd.R k25 25 w48 w.heap.size (fun k_ => some k_ ≠ (.slice Ao22 t112.length co22 : Value).ownBlock ∧ some k_ ≠ (.slice Ao17 y115.length co17 : Value).ownBlock ∧ some k_ ≠ (.slice (some ad121) t118.length co19 : Value).ownBlock ∧ some k_ ≠ (.slice Ao39 t125.length co39 : Value).ownBlock ∧ some k_ ≠ (v142 : Value).ownBlock ∧ some k_ ≠ (v148 : Value).ownBlock ∧ k_ ≠ gb111) (.slice Ao43 t134.length co43) t134) := ⟨h7_⟩
            have n8_ : Aside0 (Kd.R k25 25 w48 w.heap.size (fun k_ => some k_ ≠ (.slice Ao22 t112.length co22 : Value).ownBlock ∧ some k_ ≠ (.slice Ao17 y115.length co17 : Value).ownBlock ∧ some k_ ≠ (.slice (some ad121) t118.length co19 : Value).ownBlock ∧ some k_ ≠ (.slice Ao39 t125.length co39 : Value).ownBlock ∧ some k_ ≠ (.slice Ao43 t134.length co43 : Value).ownBlock ∧ some k_ ≠ (v148 : Value).ownBlock ∧ k_ ≠ gb111) v142 y141) := ⟨h8_⟩
            have n9_ : Aside0 (Kd.R k25 25 w48 w.heap.size (fun k_ => some k_ ≠ (.slice Ao22 t112.length co22 : Value).ownBlock ∧ some k_ ≠ (.slice Ao17 y115.length co17 : Value).ownBlock ∧ some k_ ≠ (.slice (some ad121) t118.length co19 : Value).ownBlock ∧ some k_ ≠ (.slice Ao39 t125.length co39 : Value).ownBlock ∧ some k_ ≠ (.slice Ao43 t134.length co43 : Value).ownBlock ∧ some k_ ≠ (v142 : Value).ownBlock ∧ k_ ≠ gb111) v148 y147) := ⟨h9_⟩
            have n10_ : Aside0 (w48.heap[gb111]? = some (.cells #[.string ((rd_T25 t118 0).f0), .string ((rd_T25 t118 0).f1)] 25 (0, 0))) := ⟨h10_⟩
            have n11_ : Aside0 (Below w.heap.size w w48) := ⟨h11_⟩
            clear HO114
            clear HO117
            clear HO120
            clear HO124
            clear HO127
            clear HO130
            clear HO133
            clear BK111
            clear HB
            clear h0_ h1_ h2_ h3_ h4_ h5_ h6_ h7_ h8_ h9_ h10_ h11_
            have HO114 := n0_
            have HO117 := n1_
            have HO120 := n2_
            have HO124 := n3_
            have HO127 := n4_
            have HO130 := n5_
            have HO133 := n6_
            have HO136 := n7_
            have HO143 := n8_
            have HO149 := n9_
            have BK111 := n10_
            have HB := n11_
            clear n0_ n1_ n2_ n3_ n4_ n5_ n6_ n7_ n8_ n9_ n10_ n11_
            have hHeld : w48.cell? ⟨gb111, 0, none⟩ = some (.string ((rd_T25 t118 0).f0)) ∧ w48.cell? ⟨gb111, 1, none⟩ = some (.string ((rd_T25 t118 0).f1)) := hS_
            refine norm_ (a' := ?_) ?_ ?_
            rotate_left
            ·simp only [putAll, Act.put, List.setIfInBounds_toArray, List.set_cons_zero, List.set_cons_succ]
             rfl
            refine one_ (i := 7) (N := some 42) #[true, true, true, true, true, true, true, true, true, true, false, true, true, false, false, false, false] rfl rfl (one_of HT_.out (by kernel_rfl)) (by decide) (fun K hK => ?_)
            refine goes_ Try.func25 (by kernel_rfl) rfl #[.slice Ao40 t131.length co40] (by rfl) rfl rfl (by (try simp only [List.map_toArray, List.map_cons, List.map_nil]); first | done | rfl | (simp only [List.length_drop, List.length_take]; rfl)) ?_
            with_reducible refine (PA.bulletinlaw09_Of.calls k _ _ t131 t138 _ ?side1 ?side2 A34.out).mono ?_
            (case side1 => repeat (first | exact (Kd.R_reads' HO133.out).2.2 | (with_reducible refine Kd.C_alloc ?_ _) | (with_reducible refine Kd.C_drewN ?_ _) | (with_reducible refine Kd.C_drew ?_)))
            (case side2 => exact (Kd.R_reads' HO133.out).2.1)
            rintro e w49 ⟨v139, rfl, ho0, hb⟩
            refine ⟨_, rfl, ?_⟩
            have n0_ := as0 (Kd.R_elder' HO114.out (Kd.R_base ho0) hb)
            have n1_ := as0 (Kd.R_elder' HO117.out (Kd.R_base ho0) hb)
            have n2_ := as0 (Kd.R_elder' HO120.out (Kd.R_base ho0) hb)
            have n3_ := as0 (Kd.R_below HO124.out hb)
            have n4_ := as0 (Kd.R_elder' HO127.out (Kd.R_base ho0) hb)
            have n5_ := as0 (Kd.R_below HO130.out hb)
            have n6_ := as0 (Kd.R_below HO133.out hb)
            have n7_ := as0 (Kd.R_elder' HO136.out (Kd.R_base ho0) hb)
            have n8_ := as0 (Kd.R_elder' HO143.out (Kd.R_base ho0) hb)
            have n9_ := as0 (Kd.R_elder' HO149.out (Kd.R_base ho0) hb)
            have n10_ := as0 (Kd.R_lower (Kd.R_newB (Kd.R_new' (Kd.R_new' (Kd.R_new' (Kd.R_new' (Kd.R_new' (Kd.R_new' (Kd.R_new' ho0 (Kd.R_lt HO114.out)) (Kd.R_lt HO117.out)) (Kd.R_lt HO120.out)) (Kd.R_lt HO127.out)) (Kd.R_lt HO136.out)) (Kd.R_lt HO143.out)) (Kd.R_lt HO149.out)) (g := gb111) (o := .cells #[.string ((rd_T25 t118 0).f0), .string ((rd_T25 t118 0).f1)] 25 (0, 0)) BK111.out) (below_size HB.out))
            have n11_ := as0 (blk_below (g := gb111) (o := .cells #[.string ((rd_T25 t118 0).f0), .string ((rd_T25 t118 0).f1)] 25 (0, 0)) BK111.out hb)
            have n12_ := as0 (below_step HB.out hb)
            clear HO114
            clear HO117
            clear HO120
            clear HO124
            clear HO127
            clear HO130
            clear HO133
            clear HO136
            clear HO143
            clear HO149
            clear BK111
            clear HB
            have HO114 := n0_
            have HO117 := n1_
            have HO120 := n2_
            have HO124 := n3_
            have HO127 := n4_
            have HO130 := n5_
            have HO133 := n6_
            have HO136 := n7_
            have HO143 := n8_
            have HO149 := n9_
            have HO140 := n10_
            have BK111 := n11_
            have HB := n12_
            clear n0_ n1_ n2_ n3_ n4_ n5_ n6_ n7_ n8_ n9_ n10_ n11_ n12_
            refine hK.out _ _ ⟨(blk_cell BK111.out 0).trans rfl, (blk_cell BK111.out 1).trans rfl⟩ (fun hHeld => ?_)
            clear hK K
            refine norm_ (a' := ?_) ?_ ?_
            rotate_left
            ·show Act.put _ (some 42) _ = _
             simp only [Act.put, List.setIfInBounds_toArray, List.set_cons_zero, List.set_cons_succ, i64_w, i32_w]
             rfl
            exact norm_ (by first | (simp only [putAll, Act.put, List.setIfInBounds_toArray, List.set_cons_zero, List.set_cons_succ]; done) | (simp only [putAll, Act.put, List.setIfInBounds_toArray, List.set_cons_zero, List.set_cons_succ]; rfl)) (hJ7_8_12 (v139, v142, v148) _ ⟨hHeld, (by (with_reducible repeat (first | apply Kd.R_alloc | apply Kd.R_drewN | apply Kd.R_drew)); exact Kd.R_mono HO114.out (fun _ hk => ⟨hk.1.1, ⟨hk.1.2.1, ⟨hk.1.2.2.1, ⟨hk.1.2.2.2.1, ⟨hk.2, ⟨hk.1.2.2.2.2.1, ⟨hk.1.2.2.2.2.2.1, hk.1.2.2.2.2.2.2⟩⟩⟩⟩⟩⟩⟩)), (by (with_reducible repeat (first | apply Kd.R_alloc | apply Kd.R_drewN | apply Kd.R_drew)); exact Kd.R_mono HO117.out (fun _ hk => ⟨hk.1.1, ⟨hk.1.2.1, ⟨hk.1.2.2.1, ⟨hk.1.2.2.2.1, ⟨hk.2, ⟨hk.1.2.2.2.2.1, ⟨hk.1.2.2.2.2.2.1, hk.1.2.2.2.2.2.2⟩⟩⟩⟩⟩⟩⟩)), (by (with_reducible repeat (first | apply Kd.R_alloc | apply Kd.R_drewN | apply Kd.R_drew)); exact Kd.R_mono HO120.out (fun _ hk => ⟨hk.1.1, ⟨hk.1.2.1, ⟨hk.1.2.2.1, ⟨hk.1.2.2.2.1, ⟨hk.2, ⟨hk.1.2.2.2.2.1, ⟨hk.1.2.2.2.2.2.1, hk.1.2.2.2.2.2.2⟩⟩⟩⟩⟩⟩⟩)), HO124.out, (by (with_reducible repeat (first | apply Kd.R_alloc | apply Kd.R_drewN | apply Kd.R_drew)); exact Kd.R_mono HO127.out (fun _ hk => ⟨hk.1.1, ⟨hk.1.2.1, ⟨hk.1.2.2.1, ⟨hk.1.2.2.2.1, ⟨hk.2, ⟨hk.1.2.2.2.2.1, ⟨hk.1.2.2.2.2.2.1, hk.1.2.2.2.2.2.2⟩⟩⟩⟩⟩⟩⟩)), HO130.out, HO133.out, (by (with_reducible repeat (first | apply Kd.R_alloc | apply Kd.R_drewN | apply Kd.R_drew)); exact Kd.R_mono HO136.out (fun _ hk => ⟨hk.1.1, ⟨hk.1.2.1, ⟨hk.1.2.2.1, ⟨hk.1.2.2.2.1, ⟨hk.2, ⟨hk.1.2.2.2.2.1, ⟨hk.1.2.2.2.2.2.1, hk.1.2.2.2.2.2.2⟩⟩⟩⟩⟩⟩⟩)), (by (with_reducible repeat (first | apply Kd.R_alloc | apply Kd.R_drewN | apply Kd.R_drew)); exact Kd.R_mono HO140.out (fun _ hk => ⟨hk.1.1.1.1.1.1.1.2, ⟨hk.1.1.1.1.1.1.2, ⟨hk.1.1.1.1.1.2, ⟨hk.1.1.1.1.2, ⟨hk.1.1.1.2, ⟨hk.1.1.2, ⟨hk.1.2, hk.2⟩⟩⟩⟩⟩⟩⟩)), (by (with_reducible repeat (first | apply Kd.R_alloc | apply Kd.R_drewN | apply Kd.R_drew)); exact Kd.R_mono HO143.out (fun _ hk => ⟨hk.1.1, ⟨hk.1.2.1, ⟨hk.1.2.2.1, ⟨hk.1.2.2.2.1, ⟨hk.1.2.2.2.2.1, ⟨hk.2, ⟨hk.1.2.2.2.2.2.1, hk.1.2.2.2.2.2.2⟩⟩⟩⟩⟩⟩⟩)), (by (with_reducible repeat (first | apply Kd.R_alloc | apply Kd.R_drewN | apply Kd.R_drew)); exact Kd.R_mono HO149.out (fun _ hk => ⟨hk.1.1, ⟨hk.1.2.1, ⟨hk.1.2.2.1, ⟨hk.1.2.2.2.1, ⟨hk.1.2.2.2.2.1, ⟨hk.2, ⟨hk.1.2.2.2.2.2.1, hk.1.2.2.2.2.2.2⟩⟩⟩⟩⟩⟩⟩)), BK111.out, HB.out⟩)
          ·skip
           rintro ⟨v139, v148⟩ w47 ⟨hS_, h0_, h1_, h2_, h3_, h4_, h5_, h6_, h7_, h8_, h9_, h10_, h11_⟩
           have n0_ : Aside0 (Kd.R k25 25 w47 w.heap.size (fun k_ => some k_ ≠ (.slice Ao17 y115.length co17 : Value).ownBlock ∧ some k_ ≠ (.slice (some ad121) t118.length co19 : Value).ownBlock ∧ some k_ ≠ (.slice Ao39 t125.length co39 : Value).ownBlock ∧ some k_ ≠ (.slice Ao43 t134.length co43 : Value).ownBlock ∧ some k_ ≠ (v139 : Value).ownBlock ∧ some k_ ≠ (v148 : Value).ownBlock ∧ k_ ≠ gb111) (.slice Ao22 t112.length co22) t112) := ⟨h0_⟩
           have n1_ : Aside0 (Kd.R k25 25 w47 w.heap.size (fun k_ => some k_ ≠ (.slice Ao22 t112.length co22 : Value).ownBlock ∧ some k_ ≠ (.slice (some ad121) t118.length co19 : Value).ownBlock ∧ some k_ ≠ (.slice Ao39 t125.length co39 : Value).ownBlock ∧ some k_ ≠ (.slice Ao43 t134.length co43 : Value).ownBlock ∧ some k_ ≠ (v139 : Value).ownBlock ∧ some k_ ≠ (v148 : Value).ownBlock ∧ k_ ≠ gb111) (.slice Ao17 y115.length co17) y115) := ⟨h1_⟩
           have n2_ : Aside0 (Kd.R k25 25 w47 w.heap.size (fun k_ => some k_ ≠ (.slice Ao22 t112.length co22 : Value).ownBlock ∧ some k_ ≠ (.slice Ao17 y115.length co17 : Value).ownBlock ∧ some k_ ≠ (.slice Ao39 t125.length co39 : Value).ownBlock ∧ some k_ ≠ (.slice Ao43 t134.length co43 : Value).ownBlock ∧ some k_ ≠ (v139 : Value).ownBlock ∧ some k_ ≠ (v148 : Value).ownBlock ∧ k_ ≠ gb111) (.slice (some ad121) t118.length co19) t118) := ⟨h2_⟩
           have n3_ : Aside0 (Kd.R k28 28 w47 w.heap.size (fun k_ => some k_ ≠ (.slice Ao38 t128.length co38 : Value).ownBlock ∧ some k_ ≠ (.slice Ao40 t131.length co40 : Value).ownBlock) (.slice Ao27 t122.length co27) t122) := ⟨h3_⟩
           have n4_ : Aside0 (Kd.R k25 25 w47 w.heap.size (fun k_ => some k_ ≠ (.slice Ao22 t112.length co22 : Value).ownBlock ∧ some k_ ≠ (.slice Ao17 y115.length co17 : Value).ownBlock ∧ some k_ ≠ (.slice (some ad121) t118.length co19 : Value).ownBlock ∧ some k_ ≠ (.slice Ao43 t134.length co43 : Value).ownBlock ∧ some k_ ≠ (v139 : Value).ownBlock ∧ some k_ ≠ (v148 : Value).ownBlock ∧ k_ ≠ gb111) (.slice Ao39 t125.length co39) t125) := ⟨h4_⟩
           have n5_ : Aside0 (Kd.R k28 28 w47 w.heap.size (fun k_ => some k_ ≠ (.slice Ao27 t122.length co27 : Value).ownBlock ∧ some k_ ≠ (.slice Ao40 t131.length co40 : Value).ownBlock) (.slice Ao38 t128.length co38) t128) := ⟨h5_⟩
           have n6_ : Aside0 (Kd.R k28 28 w47 w.heap.size (fun k_ => some k_ ≠ (.slice Ao27 t122.length co27 : Value).ownBlock ∧ some k_ ≠ (.slice Ao38 t128.length co38 : Value).ownBlock) (.slice Ao40 t131.length co40) t131) := ⟨h6_⟩
           have n7_ : Aside0 (Kd.R k25 25 w47 w.heap.size (fun k_ => some k_ ≠ (.slice Ao22 t112.length co22 : Value).ownBlock ∧ some k_ ≠ (.slice Ao17 y115.length co17 : Value).ownBlock ∧ some k_ ≠ (.slice (some ad121) t118.length co19 : Value).ownBlock ∧ some k_ ≠ (.slice Ao39 t125.length co39 : Value).ownBlock ∧ some k_ ≠ (v139 : Value).ownBlock ∧ some k_ ≠ (v148 : Value).ownBlock ∧ k_ ≠ gb111) (.slice Ao43 t134.length co43) t134) := ⟨h7_⟩
           have n8_ : Aside0 (Kd.R k25 25 w47 w.heap.size (fun k_ => some k_ ≠ (.slice Ao22 t112.length co22 : Value).ownBlock ∧ some k_ ≠ (.slice Ao17 y115.length co17 : Value).ownBlock ∧ some k_ ≠ (.slice (some ad121) t118.length co19 : Value).ownBlock ∧ some k_ ≠ (.slice Ao39 t125.length co39 : Value).ownBlock ∧ some k_ ≠ (.slice Ao43 t134.length co43 : Value).ownBlock ∧ some k_ ≠ (v148 : Value).ownBlock ∧ k_ ≠ gb111) v139 t138) := ⟨h8_⟩
           have n9_ : Aside0 (Kd.R k25 25 w47 w.heap.size (fun k_ => some k_ ≠ (.slice Ao22 t112.length co22 : Value).ownBlock ∧ some k_ ≠ (.slice Ao17 y115.length co17 : Value).ownBlock ∧ some k_ ≠ (.slice (some ad121) t118.length co19 : Value).ownBlock ∧ some k_ ≠ (.slice Ao39 t125.length co39 : Value).ownBlock ∧ some k_ ≠ (.slice Ao43 t134.length co43 : Value).ownBlock ∧ some k_ ≠ (v139 : Value).ownBlock ∧ k_ ≠ gb111) v148 y147) := ⟨h9_⟩
           have n10_ : Aside0 (w47.heap[gb111]? = some (.cells #[.string ((rd_T25 t118 0).f0), .string ((rd_T25 t118 0).f1)] 25 (0, 0))) := ⟨h10_⟩
           have n11_ : Aside0 (Below w.heap.size w w47) := ⟨h11_⟩
           clear HO114
           clear HO117
           clear HO120
           clear HO124
           clear HO127
           clear HO130
           clear HO133
           clear BK111
           clear HB
           clear h0_ h1_ h2_ h3_ h4_ h5_ h6_ h7_ h8_ h9_ h10_ h11_
           have HO114 := n0_
           have HO117 := n1_
           have HO120 := n2_
           have HO124 := n3_
           have HO127 := n4_
           have HO130 := n5_
           have HO133 := n6_
           have HO136 := n7_
           have HO140 := n8_
           have HO149 := n9_
           have BK111 := n10_
           have HB := n11_
           clear n0_ n1_ n2_ n3_ n4_ n5_ n6_ n7_ n8_ n9_ n10_ n11_
           have hHeld : w47.cell? ⟨gb111, 0, none⟩ = some (.string ((rd_T25 t118 0).f0)) ∧ w47.cell? ⟨gb111, 1, none⟩ = some (.string ((rd_T25 t118 0).f1)) := hS_
           refine norm_ (a' := ?_) ?_ ?_
           rotate_left
           ·simp only [putAll, Act.put, List.setIfInBounds_toArray, List.set_cons_zero, List.set_cons_succ]
            rfl
           refine one_ (i := 8) (N := some 43) #[true, true, true, true, true, true, true, true, true, true, false, true, true, false, false, false, false] rfl rfl (one_of HT_.out (by kernel_rfl)) (by decide) (fun K hK => ?_)
           refine Kd.R_lit_step k25 _ 25 ?hg (N := 43) ?hd (xs := ([] : List (S25))) (inner := []) (ok := fun _ => True) (okp := fun _ => True) ?hr ?hp (fun _ hk => hk) trivial (Below.refl _ _) (Nat.le_refl _) (by simp) ?_; (case hd => rfl); (case hg => rfl); (case hr => first | (go_simp; done) | (go_simp; rfl)); (case hp => exact (Reps.none _ _))
           intro v142 w48 ho49 hb hg_ hnew_
           clear hg_ hnew_
           (first | rw [← Ny141.out] at ho49 | (simp only [Int.reduceToNat] at ho49; rw [← Ny141.out] at ho49))
           have n0_ := as0 (Kd.R_elder' HO114.out (Kd.R_base ho49) hb)
           have n1_ := as0 (Kd.R_elder' HO117.out (Kd.R_base ho49) hb)
           have n2_ := as0 (Kd.R_elder' HO120.out (Kd.R_base ho49) hb)
           have n3_ := as0 (Kd.R_below HO124.out hb)
           have n4_ := as0 (Kd.R_elder' HO127.out (Kd.R_base ho49) hb)
           have n5_ := as0 (Kd.R_below HO130.out hb)
           have n6_ := as0 (Kd.R_below HO133.out hb)
           have n7_ := as0 (Kd.R_elder' HO136.out (Kd.R_base ho49) hb)
           have n8_ := as0 (Kd.R_elder' HO140.out (Kd.R_base ho49) hb)
           have n9_ := as0 (Kd.R_elder' HO149.out (Kd.R_base ho49) hb)
           have n10_ := as0 (Kd.R_lower (Kd.R_newB (Kd.R_new' (Kd.R_new' (Kd.R_new' (Kd.R_new' (Kd.R_new' (Kd.R_new' (Kd.R_new' ho49 (Kd.R_lt HO114.out)) (Kd.R_lt HO117.out)) (Kd.R_lt HO120.out)) (Kd.R_lt HO127.out)) (Kd.R_lt HO136.out)) (Kd.R_lt HO140.out)) (Kd.R_lt HO149.out)) (g := gb111) (o := .cells #[.string ((rd_T25 t118 0).f0), .string ((rd_T25 t118 0).f1)] 25 (0, 0)) BK111.out) (below_size HB.out))
           have n11_ := as0 (blk_below (g := gb111) (o := .cells #[.string ((rd_T25 t118 0).f0), .string ((rd_T25 t118 0).f1)] 25 (0, 0)) BK111.out hb)
           have n12_ := as0 (below_step HB.out hb)
           clear HO114
           clear HO117
           clear HO120
           clear HO124
           clear HO127
           clear HO130
           clear HO133
           clear HO136
           clear HO140
           clear HO149
           clear BK111
           clear HB
           have HO114 := n0_
           have HO117 := n1_
           have HO120 := n2_
           have HO124 := n3_
           have HO127 := n4_
           have HO130 := n5_
           have HO133 := n6_
           have HO136 := n7_
           have HO140 := n8_
           have HO149 := n9_
           have HO143 := n10_
           have BK111 := n11_
           have HB := n12_
           clear n0_ n1_ n2_ n3_ n4_ n5_ n6_ n7_ n8_ n9_ n10_ n11_ n12_
           clear hb ho49
           refine hK.out _ _ ⟨(blk_cell BK111.out 0).trans rfl, (blk_cell BK111.out 1).trans rfl⟩ (fun hHeld => ?_)
           clear hK K
           refine norm_ (a' := ?_) ?_ ?_
           rotate_left
           ·show Act.put _ (some 43) _ = _
            simp only [Act.put, List.setIfInBounds_toArray, List.set_cons_zero, List.set_cons_succ, i64_w, i32_w]
            rfl
           exact norm_ (by first | (simp only [putAll, Act.put, List.setIfInBounds_toArray, List.set_cons_zero, List.set_cons_succ]; done) | (simp only [putAll, Act.put, List.setIfInBounds_toArray, List.set_cons_zero, List.set_cons_succ]; rfl)) (hJ7_8_12 (v139, v142, v148) _ ⟨hHeld, (by (with_reducible repeat (first | apply Kd.R_alloc | apply Kd.R_drewN | apply Kd.R_drew)); exact Kd.R_mono HO114.out (fun _ hk => ⟨hk.1.1, ⟨hk.1.2.1, ⟨hk.1.2.2.1, ⟨hk.1.2.2.2.1, ⟨hk.1.2.2.2.2.1, ⟨hk.2, ⟨hk.1.2.2.2.2.2.1, hk.1.2.2.2.2.2.2⟩⟩⟩⟩⟩⟩⟩)), (by (with_reducible repeat (first | apply Kd.R_alloc | apply Kd.R_drewN | apply Kd.R_drew)); exact Kd.R_mono HO117.out (fun _ hk => ⟨hk.1.1, ⟨hk.1.2.1, ⟨hk.1.2.2.1, ⟨hk.1.2.2.2.1, ⟨hk.1.2.2.2.2.1, ⟨hk.2, ⟨hk.1.2.2.2.2.2.1, hk.1.2.2.2.2.2.2⟩⟩⟩⟩⟩⟩⟩)), (by (with_reducible repeat (first | apply Kd.R_alloc | apply Kd.R_drewN | apply Kd.R_drew)); exact Kd.R_mono HO120.out (fun _ hk => ⟨hk.1.1, ⟨hk.1.2.1, ⟨hk.1.2.2.1, ⟨hk.1.2.2.2.1, ⟨hk.1.2.2.2.2.1, ⟨hk.2, ⟨hk.1.2.2.2.2.2.1, hk.1.2.2.2.2.2.2⟩⟩⟩⟩⟩⟩⟩)), HO124.out, (by (with_reducible repeat (first | apply Kd.R_alloc | apply Kd.R_drewN | apply Kd.R_drew)); exact Kd.R_mono HO127.out (fun _ hk => ⟨hk.1.1, ⟨hk.1.2.1, ⟨hk.1.2.2.1, ⟨hk.1.2.2.2.1, ⟨hk.1.2.2.2.2.1, ⟨hk.2, ⟨hk.1.2.2.2.2.2.1, hk.1.2.2.2.2.2.2⟩⟩⟩⟩⟩⟩⟩)), HO130.out, HO133.out, (by (with_reducible repeat (first | apply Kd.R_alloc | apply Kd.R_drewN | apply Kd.R_drew)); exact Kd.R_mono HO136.out (fun _ hk => ⟨hk.1.1, ⟨hk.1.2.1, ⟨hk.1.2.2.1, ⟨hk.1.2.2.2.1, ⟨hk.1.2.2.2.2.1, ⟨hk.2, ⟨hk.1.2.2.2.2.2.1, hk.1.2.2.2.2.2.2⟩⟩⟩⟩⟩⟩⟩)), (by (with_reducible repeat (first | apply Kd.R_alloc | apply Kd.R_drewN | apply Kd.R_drew)); exact Kd.R_mono HO140.out (fun _ hk => ⟨hk.1.1, ⟨hk.1.2.1, ⟨hk.1.2.2.1, ⟨hk.1.2.2.2.1, ⟨hk.1.2.2.2.2.1, ⟨hk.2, ⟨hk.1.2.2.2.2.2.1, hk.1.2.2.2.2.2.2⟩⟩⟩⟩⟩⟩⟩)), (by (with_reducible repeat (first | apply Kd.R_alloc | apply Kd.R_drewN | apply Kd.R_drew)); exact Kd.R_mono HO143.out (fun _ hk => ⟨hk.1.1.1.1.1.1.1.2, ⟨hk.1.1.1.1.1.1.2, ⟨hk.1.1.1.1.1.2, ⟨hk.1.1.1.1.2, ⟨hk.1.1.1.2, ⟨hk.1.1.2, ⟨hk.1.2, hk.2⟩⟩⟩⟩⟩⟩⟩)), (by (with_reducible repeat (first | apply Kd.R_alloc | apply Kd.R_drewN | apply Kd.R_drew)); exact Kd.R_mono HO149.out (fun _ hk => ⟨hk.1.1, ⟨hk.1.2.1, ⟨hk.1.2.2.1, ⟨hk.1.2.2.2.1, ⟨hk.1.2.2.2.2.1, ⟨hk.1.2.2.2.2.2.1, ⟨hk.2, hk.1.2.2.2.2.2.2⟩⟩⟩⟩⟩⟩⟩)), BK111.out, HB.out⟩)
         ·skip
          rintro ⟨v139, v142⟩ w47 ⟨hS_, h0_, h1_, h2_, h3_, h4_, h5_, h6_, h7_, h8_, h9_, h10_, h11_⟩
          have n0_ : Aside0 (Kd.R k25 25 w47 w.heap.size (fun k_ => some k_ ≠ (.slice Ao17 y115.length co17 : Value).ownBlock ∧ some k_ ≠ (.slice (some ad121) t118.length co19 : Value).ownBlock ∧ some k_ ≠ (.slice Ao39 t125.length co39 : Value).ownBlock ∧ some k_ ≠ (.slice Ao43 t134.length co43 : Value).ownBlock ∧ some k_ ≠ (v139 : Value).ownBlock ∧ some k_ ≠ (v142 : Value).ownBlock ∧ k_ ≠ gb111) (.slice Ao22 t112.length co22) t112) := ⟨h0_⟩
          have n1_ : Aside0 (Kd.R k25 25 w47 w.heap.size (fun k_ => some k_ ≠ (.slice Ao22 t112.length co22 : Value).ownBlock ∧ some k_ ≠ (.slice (some ad121) t118.length co19 : Value).ownBlock ∧ some k_ ≠ (.slice Ao39 t125.length co39 : Value).ownBlock ∧ some k_ ≠ (.slice Ao43 t134.length co43 : Value).ownBlock ∧ some k_ ≠ (v139 : Value).ownBlock ∧ some k_ ≠ (v142 : Value).ownBlock ∧ k_ ≠ gb111) (.slice Ao17 y115.length co17) y115) := ⟨h1_⟩
          have n2_ : Aside0 (Kd.R k25 25 w47 w.heap.size (fun k_ => some k_ ≠ (.slice Ao22 t112.length co22 : Value).ownBlock ∧ some k_ ≠ (.slice Ao17 y115.length co17 : Value).ownBlock ∧ some k_ ≠ (.slice Ao39 t125.length co39 : Value).ownBlock ∧ some k_ ≠ (.slice Ao43 t134.length co43 : Value).ownBlock ∧ some k_ ≠ (v139 : Value).ownBlock ∧ some k_ ≠ (v142 : Value).ownBlock ∧ k_ ≠ gb111) (.slice (some ad121) t118.length co19) t118) := ⟨h2_⟩
          have n3_ : Aside0 (Kd.R k28 28 w47 w.heap.size (fun k_ => some k_ ≠ (.slice Ao38 t128.length co38 : Value).ownBlock ∧ some k_ ≠ (.slice Ao40 t131.length co40 : Value).ownBlock) (.slice Ao27 t122.length co27) t122) := ⟨h3_⟩
          have n4_ : Aside0 (Kd.R k25 25 w47 w.heap.size (fun k_ => some k_ ≠ (.slice Ao22 t112.length co22 : Value).ownBlock ∧ some k_ ≠ (.slice Ao17 y115.length co17 : Value).ownBlock ∧ some k_ ≠ (.slice (some ad121) t118.length co19 : Value).ownBlock ∧ some k_ ≠ (.slice Ao43 t134.length co43 : Value).ownBlock ∧ some k_ ≠ (v139 : Value).ownBlock ∧ some k_ ≠ (v142 : Value).ownBlock ∧ k_ ≠ gb111) (.slice Ao39 t125.length co39) t125) := ⟨h4_⟩
          have n5_ : Aside0 (Kd.R k28 28 w47 w.heap.size (fun k_ => some k_ ≠ (.slice Ao27 t122.length co27 : Value).ownBlock ∧ some k_ ≠ (.slice Ao40 t131.length co40 : Value).ownBlock) (.slice Ao38 t128.length co38) t128) := ⟨h5_⟩
          have n6_ : Aside0 (Kd.R k28 28 w47 w.heap.size (fun k_ => some k_ ≠ (.slice Ao27 t122.length co27 : Value).ownBlock ∧ some k_ ≠ (.slice Ao38 t128.length co38 : Value).ownBlock) (.slice Ao40 t131.length co40) t131) := ⟨h6_⟩
          have n7_ : Aside0 (Kd.R k25 25 w47 w.heap.size (fun k_ => some k_ ≠ (.slice Ao22 t112.length co22 : Value).ownBlock ∧ some k_ ≠ (.slice Ao17 y115.length co17 : Value).ownBlock ∧ some k_ ≠ (.slice (some ad121) t118.length co19 : Value).ownBlock ∧ some k_ ≠ (.slice Ao39 t125.length co39 : Value).ownBlock ∧ some k_ ≠ (v139 : Value).ownBlock ∧ some k_ ≠ (v142 : Value).ownBlock ∧ k_ ≠ gb111) (.slice Ao43 t134.length co43) t134) := ⟨h7_⟩
          have n8_ : Aside0 (Kd.R k25 25 w47 w.heap.size (fun k_ => some k_ ≠ (.slice Ao22 t112.length co22 : Value).ownBlock ∧ some k_ ≠ (.slice Ao17 y115.length co17 : Value).ownBlock ∧ some k_ ≠ (.slice (some ad121) t118.length co19 : Value).ownBlock ∧ some k_ ≠ (.slice Ao39 t125.length co39 : Value).ownBlock ∧ some k_ ≠ (.slice Ao43 t134.length co43 : Value).ownBlock ∧ some k_ ≠ (v142 : Value).ownBlock ∧ k_ ≠ gb111) v139 t138) := ⟨h8_⟩
          have n9_ : Aside0 (Kd.R k25 25 w47 w.heap.size (fun k_ => some k_ ≠ (.slice Ao22 t112.length co22 : Value).ownBlock ∧ some k_ ≠ (.slice Ao17 y115.length co17 : Value).ownBlock ∧ some k_ ≠ (.slice (some ad121) t118.length co19 : Value).ownBlock ∧ some k_ ≠ (.slice Ao39 t125.length co39 : Value).ownBlock ∧ some k_ ≠ (.slice Ao43 t134.length co43 : Value).ownBlock ∧ some k_ ≠ (v139 : Value).ownBlock ∧ k_ ≠ gb111) v142 y141) := ⟨h9_⟩
          have n10_ : Aside0 (w47.heap[gb111]? = some (.cells #[.string ((rd_T25 t118 0).f0), .string ((rd_T25 t118 0).f1)] 25 (0, 0))) := ⟨h10_⟩
          have n11_ : Aside0 (Below w.heap.size w w47) := ⟨h11_⟩
          clear HO114
          clear HO117
          clear HO120
          clear HO124
          clear HO127
          clear HO130
          clear HO133
          clear BK111
          clear HB
          clear h0_ h1_ h2_ h3_ h4_ h5_ h6_ h7_ h8_ h9_ h10_ h11_
          have HO114 := n0_
          have HO117 := n1_
          have HO120 := n2_
          have HO124 := n3_
          have HO127 := n4_
          have HO130 := n5_
          have HO133 := n6_
          have HO136 := n7_
          have HO140 := n8_
          have HO143 := n9_
          have BK111 := n10_
          have HB := n11_
          clear n0_ n1_ n2_ n3_ n4_ n5_ n6_ n7_ n8_ n9_ n10_ n11_
          have hHeld : w47.cell? ⟨gb111, 0, none⟩ = some (.string ((rd_T25 t118 0).f0)) ∧ w47.cell? ⟨gb111, 1, none⟩ = some (.string ((rd_T25 t118 0).f1)) := hS_
          refine norm_ (a' := ?_) ?_ ?_
          rotate_left
          ·simp only [putAll, Act.put, List.setIfInBounds_toArray, List.set_cons_zero, List.set_cons_succ]
           rfl
          refine two_ (i := 10) (j := 12) (Ni := some 45) (Nj := some 47) #[true, true, true, true, true, true, true, true, true, true, true, true, false, false, false, false, false] #[true, true, true, true, true, true, true, true, true, true, false, true, true, false, false, false, false] rfl rfl rfl rfl (two_of HT_.out (by kernel_rfl)) (by decide) (by decide) (fun K hK => ?_) (fun K hK => ?_)
          ·skip
           refine Kd.R_append_rows_step k25 (w0 := w) w.heap.size (by rfl) (.tmp 43) (.tmp 44) 26 25 (.agg #[(.string ⟨#[]⟩), (.string ⟨#[]⟩)]) 32 rfl Try.underlying26 info25 rfl (by decide) (by omega) v142 y141 t125 _ _ _ (fun k_ => some k_ ≠ (.slice Ao22 t112.length co22 : Value).ownBlock ∧ some k_ ≠ (.slice Ao17 y115.length co17 : Value).ownBlock ∧ some k_ ≠ (.slice (some ad121) t118.length co19 : Value).ownBlock ∧ some k_ ≠ (.slice Ao39 t125.length co39 : Value).ownBlock ∧ some k_ ≠ (.slice Ao43 t134.length co43 : Value).ownBlock ∧ some k_ ≠ (v139 : Value).ownBlock ∧ k_ ≠ gb111) (fun _ => False) rfl rfl ?aO ?aR (fun _ _ h => h) (fun _ h => h.elim) ?aF ?aB ?aS ?aL ?_
           (case aR => repeat (first | exact (Kd.R_reads' HO127.out).2.2 | (with_reducible refine Kd.C_alloc ?_ _) | (with_reducible refine Kd.C_drewN ?_ _) | (with_reducible refine Kd.C_drew ?_)))
           (case aB => exact HB.out)
           (case aF => exact (fun k_ hk => ⟨Kd.fresh' (Kd.R_lt HO114.out) k_ hk, Kd.fresh' (Kd.R_lt HO117.out) k_ hk, Kd.fresh' (Kd.R_lt HO120.out) k_ hk, Kd.fresh' (Kd.R_lt HO127.out) k_ hk, Kd.fresh' (Kd.R_lt HO136.out) k_ hk, Kd.fresh' (Kd.R_lt HO140.out) k_ hk, Kd.freshB (g := gb111) (o := .cells #[.string ((rd_T25 t118 0).f0), .string ((rd_T25 t118 0).f1)] 25 (0, 0)) BK111.out k_ hk⟩))
           (case aO => exact HO143.out)
           (case aS => exact (below_size HB.out))
           (case aL => have := LMc35.out; omega)
           intro v145 w48 ho hb hg hat
           rw [← Ny144.out] at ho
           have n0_ := as0 (blk_grown (g := gb111) (o := .cells #[.string ((rd_T25 t118 0).f0), .string ((rd_T25 t118 0).f1)] 25 (0, 0)) BK111.out hg (Kd.R_away HO143.out (fun _ hk => hk.2.2.2.2.2.2)))
           have n1_ := as0 (Kd.R_after (ok := (fun k_ => some k_ ≠ (.slice Ao17 y115.length co17 : Value).ownBlock ∧ some k_ ≠ (.slice (some ad121) t118.length co19 : Value).ownBlock ∧ some k_ ≠ (.slice Ao39 t125.length co39 : Value).ownBlock ∧ some k_ ≠ (.slice Ao43 t134.length co43 : Value).ownBlock ∧ some k_ ≠ (v139 : Value).ownBlock ∧ k_ ≠ gb111)) (by (with_reducible repeat (first | apply Kd.R_alloc | apply Kd.R_drewN | apply Kd.R_drew)); exact Kd.R_mono HO114.out (fun _ hk => ⟨⟨hk.1, ⟨hk.2.1, ⟨hk.2.2.1, ⟨hk.2.2.2.1, ⟨hk.2.2.2.2.1, hk.2.2.2.2.2.2⟩⟩⟩⟩⟩, hk.2.2.2.2.2.1⟩)) hg hat)
           have n2_ := as0 (Kd.R_after (ok := (fun k_ => some k_ ≠ (.slice Ao22 t112.length co22 : Value).ownBlock ∧ some k_ ≠ (.slice (some ad121) t118.length co19 : Value).ownBlock ∧ some k_ ≠ (.slice Ao39 t125.length co39 : Value).ownBlock ∧ some k_ ≠ (.slice Ao43 t134.length co43 : Value).ownBlock ∧ some k_ ≠ (v139 : Value).ownBlock ∧ k_ ≠ gb111)) (by (with_reducible repeat (first | apply Kd.R_alloc | apply Kd.R_drewN | apply Kd.R_drew)); exact Kd.R_mono HO117.out (fun _ hk => ⟨⟨hk.1, ⟨hk.2.1, ⟨hk.2.2.1, ⟨hk.2.2.2.1, ⟨hk.2.2.2.2.1, hk.2.2.2.2.2.2⟩⟩⟩⟩⟩, hk.2.2.2.2.2.1⟩)) hg hat)
           have n3_ := as0 (Kd.R_after (ok := (fun k_ => some k_ ≠ (.slice Ao22 t112.length co22 : Value).ownBlock ∧ some k_ ≠ (.slice Ao17 y115.length co17 : Value).ownBlock ∧ some k_ ≠ (.slice Ao39 t125.length co39 : Value).ownBlock ∧ some k_ ≠ (.slice Ao43 t134.length co43 : Value).ownBlock ∧ some k_ ≠ (v139 : Value).ownBlock ∧ k_ ≠ gb111)) (by (with_reducible repeat (first | apply Kd.R_alloc | apply Kd.R_drewN | apply Kd.R_drew)); exact Kd.R_mono HO120.out (fun _ hk => ⟨⟨hk.1, ⟨hk.2.1, ⟨hk.2.2.1, ⟨hk.2.2.2.1, ⟨hk.2.2.2.2.1, hk.2.2.2.2.2.2⟩⟩⟩⟩⟩, hk.2.2.2.2.2.1⟩)) hg hat)
           have n4_ := as0 (Kd.R_over' HO124.out (Kd.R_typed HO143.out) (by decide) hg)
           have n5_ := as0 (Kd.R_after (ok := (fun k_ => some k_ ≠ (.slice Ao22 t112.length co22 : Value).ownBlock ∧ some k_ ≠ (.slice Ao17 y115.length co17 : Value).ownBlock ∧ some k_ ≠ (.slice (some ad121) t118.length co19 : Value).ownBlock ∧ some k_ ≠ (.slice Ao43 t134.length co43 : Value).ownBlock ∧ some k_ ≠ (v139 : Value).ownBlock ∧ k_ ≠ gb111)) (by (with_reducible repeat (first | apply Kd.R_alloc | apply Kd.R_drewN | apply Kd.R_drew)); exact Kd.R_mono HO127.out (fun _ hk => ⟨⟨hk.1, ⟨hk.2.1, ⟨hk.2.2.1, ⟨hk.2.2.2.1, ⟨hk.2.2.2.2.1, hk.2.2.2.2.2.2⟩⟩⟩⟩⟩, hk.2.2.2.2.2.1⟩)) hg hat)
           have n6_ := as0 (Kd.R_over' HO130.out (Kd.R_typed HO143.out) (by decide) hg)
           have n7_ := as0 (Kd.R_over' HO133.out (Kd.R_typed HO143.out) (by decide) hg)
           have n8_ := as0 (Kd.R_after (ok := (fun k_ => some k_ ≠ (.slice Ao22 t112.length co22 : Value).ownBlock ∧ some k_ ≠ (.slice Ao17 y115.length co17 : Value).ownBlock ∧ some k_ ≠ (.slice (some ad121) t118.length co19 : Value).ownBlock ∧ some k_ ≠ (.slice Ao39 t125.length co39 : Value).ownBlock ∧ some k_ ≠ (v139 : Value).ownBlock ∧ k_ ≠ gb111)) (by (with_reducible repeat (first | apply Kd.R_alloc | apply Kd.R_drewN | apply Kd.R_drew)); exact Kd.R_mono HO136.out (fun _ hk => ⟨⟨hk.1, ⟨hk.2.1, ⟨hk.2.2.1, ⟨hk.2.2.2.1, ⟨hk.2.2.2.2.1, hk.2.2.2.2.2.2⟩⟩⟩⟩⟩, hk.2.2.2.2.2.1⟩)) hg hat)
           have n9_ := as0 (Kd.R_after (ok := (fun k_ => some k_ ≠ (.slice Ao22 t112.length co22 : Value).ownBlock ∧ some k_ ≠ (.slice Ao17 y115.length co17 : Value).ownBlock ∧ some k_ ≠ (.slice (some ad121) t118.length co19 : Value).ownBlock ∧ some k_ ≠ (.slice Ao39 t125.length co39 : Value).ownBlock ∧ some k_ ≠ (.slice Ao43 t134.length co43 : Value).ownBlock ∧ k_ ≠ gb111)) (by (with_reducible repeat (first | apply Kd.R_alloc | apply Kd.R_drewN | apply Kd.R_drew)); exact Kd.R_mono HO140.out (fun _ hk => ⟨⟨hk.1, ⟨hk.2.1, ⟨hk.2.2.1, ⟨hk.2.2.2.1, ⟨hk.2.2.2.2.1, hk.2.2.2.2.2.2⟩⟩⟩⟩⟩, hk.2.2.2.2.2.1⟩)) hg hat)
           have n10_ := as0 (hb)
           have n11_ := as0 (ho)
           clear BK111
           clear HO114
           clear HO117
           clear HO120
           clear HO124
           clear HO127
           clear HO130
           clear HO133
           clear HO136
           clear HO140
           clear HB
           clear HO143
           have BK111 := n0_
           have HO114 := n1_
           have HO117 := n2_
           have HO120 := n3_
           have HO124 := n4_
           have HO127 := n5_
           have HO130 := n6_
           have HO133 := n7_
           have HO136 := n8_
           have HO140 := n9_
           have HB := n10_
           have HO146 := n11_
           clear n0_ n1_ n2_ n3_ n4_ n5_ n6_ n7_ n8_ n9_ n10_ n11_
           clear ho hb hg hat
           refine hK.out _ _ ⟨(blk_cell BK111.out 0).trans rfl, (blk_cell BK111.out 1).trans rfl⟩ (fun hHeld => ?_)
           clear hK K
           refine norm_ (a' := ?_) ?_ ?_
           rotate_left
           ·show Act.put _ (some 45) _ = _
            simp only [Act.put, List.setIfInBounds_toArray, List.set_cons_zero, List.set_cons_succ, i64_w, i32_w]
            rfl
           exact norm_ (by first | (simp only [putAll, Act.put, List.setIfInBounds_toArray, List.set_cons_zero, List.set_cons_succ]; done) | (simp only [putAll, Act.put, List.setIfInBounds_toArray, List.set_cons_zero, List.set_cons_succ]; rfl)) (hJ7_8_10 (v139, v142, v145) _ ⟨hHeld, (by (with_reducible repeat (first | apply Kd.R_alloc | apply Kd.R_drewN | apply Kd.R_drew)); exact Kd.R_mono HO114.out (fun _ hk => ⟨hk.1.1, ⟨hk.1.2.1, ⟨hk.1.2.2.1, ⟨hk.1.2.2.2.1, ⟨hk.1.2.2.2.2.1, ⟨hk.2, hk.1.2.2.2.2.2⟩⟩⟩⟩⟩⟩)), (by (with_reducible repeat (first | apply Kd.R_alloc | apply Kd.R_drewN | apply Kd.R_drew)); exact Kd.R_mono HO117.out (fun _ hk => ⟨hk.1.1, ⟨hk.1.2.1, ⟨hk.1.2.2.1, ⟨hk.1.2.2.2.1, ⟨hk.1.2.2.2.2.1, ⟨hk.2, hk.1.2.2.2.2.2⟩⟩⟩⟩⟩⟩)), (by (with_reducible repeat (first | apply Kd.R_alloc | apply Kd.R_drewN | apply Kd.R_drew)); exact Kd.R_mono HO120.out (fun _ hk => ⟨hk.1.1, ⟨hk.1.2.1, ⟨hk.1.2.2.1, ⟨hk.1.2.2.2.1, ⟨hk.1.2.2.2.2.1, ⟨hk.2, hk.1.2.2.2.2.2⟩⟩⟩⟩⟩⟩)), HO124.out, (by (with_reducible repeat (first | apply Kd.R_alloc | apply Kd.R_drewN | apply Kd.R_drew)); exact Kd.R_mono HO127.out (fun _ hk => ⟨hk.1.1, ⟨hk.1.2.1, ⟨hk.1.2.2.1, ⟨hk.1.2.2.2.1, ⟨hk.1.2.2.2.2.1, ⟨hk.2, hk.1.2.2.2.2.2⟩⟩⟩⟩⟩⟩)), HO130.out, HO133.out, (by (with_reducible repeat (first | apply Kd.R_alloc | apply Kd.R_drewN | apply Kd.R_drew)); exact Kd.R_mono HO136.out (fun _ hk => ⟨hk.1.1, ⟨hk.1.2.1, ⟨hk.1.2.2.1, ⟨hk.1.2.2.2.1, ⟨hk.1.2.2.2.2.1, ⟨hk.2, hk.1.2.2.2.2.2⟩⟩⟩⟩⟩⟩)), (by (with_reducible repeat (first | apply Kd.R_alloc | apply Kd.R_drewN | apply Kd.R_drew)); exact Kd.R_mono HO140.out (fun _ hk => ⟨hk.1.1, ⟨hk.1.2.1, ⟨hk.1.2.2.1, ⟨hk.1.2.2.2.1, ⟨hk.1.2.2.2.2.1, ⟨hk.2, hk.1.2.2.2.2.2⟩⟩⟩⟩⟩⟩)), HO146.out, BK111.out, HB.out⟩)
          ·skip
           refine Kd.R_lit_step k25 _ 25 ?hg (N := 47) ?hd (xs := ([(⟨(rd_T25 t118 0).f0, (rd_T25 t118 0).f1⟩ : S25)] : List (S25))) (inner := [.string ((rd_T25 t118 0).f0), .string ((rd_T25 t118 0).f1)]) (ok := fun _ => True) (okp := fun _ => True) ?hr ?hp (fun _ hk => hk) trivial (Below.refl _ _) (Nat.le_refl _) (by simp) ?_; (case hd => rfl); (case hg => rfl); (case hr => first | (go_simp; done) | (go_simp; rfl)); (case hp => exact (Reps.c2 (show Kd.M k25 _ _ _ (⟨(rd_T25 t118 0).f0, (rd_T25 t118 0).f1⟩ : S25) [.string ((rd_T25 t118 0).f0), .string ((rd_T25 t118 0).f1)] from (k25_mkM _ _ _ (⟨(rd_T25 t118 0).f0, (rd_T25 t118 0).f1⟩ : S25) )) (Reps.none _ _)))
           intro v148 w48 ho49 hb hg_ hnew_
           clear hg_ hnew_
           (first | rw [← Ny147.out] at ho49 | (simp only [Int.reduceToNat] at ho49; rw [← Ny147.out] at ho49))
           have n0_ := as0 (Kd.R_elder' HO114.out (Kd.R_base ho49) hb)
           have n1_ := as0 (Kd.R_elder' HO117.out (Kd.R_base ho49) hb)
           have n2_ := as0 (Kd.R_elder' HO120.out (Kd.R_base ho49) hb)
           have n3_ := as0 (Kd.R_below HO124.out hb)
           have n4_ := as0 (Kd.R_elder' HO127.out (Kd.R_base ho49) hb)
           have n5_ := as0 (Kd.R_below HO130.out hb)
           have n6_ := as0 (Kd.R_below HO133.out hb)
           have n7_ := as0 (Kd.R_elder' HO136.out (Kd.R_base ho49) hb)
           have n8_ := as0 (Kd.R_elder' HO140.out (Kd.R_base ho49) hb)
           have n9_ := as0 (Kd.R_elder' HO143.out (Kd.R_base ho49) hb)
           have n10_ := as0 (Kd.R_lower (Kd.R_newB (Kd.R_new' (Kd.R_new' (Kd.R_new' (Kd.R_new' (Kd.R_new' (Kd.R_new' (Kd.R_new' ho49 (Kd.R_lt HO114.out)) (Kd.R_lt HO117.out)) (Kd.R_lt HO120.out)) (Kd.R_lt HO127.out)) (Kd.R_lt HO136.out)) (Kd.R_lt HO140.out)) (Kd.R_lt HO143.out)) (g := gb111) (o := .cells #[.string ((rd_T25 t118 0).f0), .string ((rd_T25 t118 0).f1)] 25 (0, 0)) BK111.out) (below_size HB.out))
           have n11_ := as0 (blk_below (g := gb111) (o := .cells #[.string ((rd_T25 t118 0).f0), .string ((rd_T25 t118 0).f1)] 25 (0, 0)) BK111.out hb)
           have n12_ := as0 (below_step HB.out hb)
           clear HO114
           clear HO117
           clear HO120
           clear HO124
           clear HO127
           clear HO130
           clear HO133
           clear HO136
           clear HO140
           clear HO143
           clear BK111
           clear HB
           have HO114 := n0_
           have HO117 := n1_
           have HO120 := n2_
           have HO124 := n3_
           have HO127 := n4_
           have HO130 := n5_
           have HO133 := n6_
           have HO136 := n7_
           have HO140 := n8_
           have HO143 := n9_
           have HO149 := n10_
           have BK111 := n11_
           have HB := n12_
           clear n0_ n1_ n2_ n3_ n4_ n5_ n6_ n7_ n8_ n9_ n10_ n11_ n12_
           clear hb ho49
           refine hK.out _ _ ⟨(blk_cell BK111.out 0).trans rfl, (blk_cell BK111.out 1).trans rfl⟩ (fun hHeld => ?_)
           clear hK K
           refine norm_ (a' := ?_) ?_ ?_
           rotate_left
           ·show Act.put _ (some 47) _ = _
            simp only [Act.put, List.setIfInBounds_toArray, List.set_cons_zero, List.set_cons_succ, i64_w, i32_w]
            rfl
           exact norm_ (by first | (simp only [putAll, Act.put, List.setIfInBounds_toArray, List.set_cons_zero, List.set_cons_succ]; done) | (simp only [putAll, Act.put, List.setIfInBounds_toArray, List.set_cons_zero, List.set_cons_succ]; rfl)) (hJ7_8_12 (v139, v142, v148) _ ⟨hHeld, (by (with_reducible repeat (first | apply Kd.R_alloc | apply Kd.R_drewN | apply Kd.R_drew)); exact Kd.R_mono HO114.out (fun _ hk => ⟨hk.1.1, ⟨hk.1.2.1, ⟨hk.1.2.2.1, ⟨hk.1.2.2.2.1, ⟨hk.1.2.2.2.2.1, ⟨hk.1.2.2.2.2.2.1, ⟨hk.2, hk.1.2.2.2.2.2.2⟩⟩⟩⟩⟩⟩⟩)), (by (with_reducible repeat (first | apply Kd.R_alloc | apply Kd.R_drewN | apply Kd.R_drew)); exact Kd.R_mono HO117.out (fun _ hk => ⟨hk.1.1, ⟨hk.1.2.1, ⟨hk.1.2.2.1, ⟨hk.1.2.2.2.1, ⟨hk.1.2.2.2.2.1, ⟨hk.1.2.2.2.2.2.1, ⟨hk.2, hk.1.2.2.2.2.2.2⟩⟩⟩⟩⟩⟩⟩)), (by (with_reducible repeat (first | apply Kd.R_alloc | apply Kd.R_drewN | apply Kd.R_drew)); exact Kd.R_mono HO120.out (fun _ hk => ⟨hk.1.1, ⟨hk.1.2.1, ⟨hk.1.2.2.1, ⟨hk.1.2.2.2.1, ⟨hk.1.2.2.2.2.1, ⟨hk.1.2.2.2.2.2.1, ⟨hk.2, hk.1.2.2.2.2.2.2⟩⟩⟩⟩⟩⟩⟩)), HO124.out, (by (with_reducible repeat (first | apply Kd.R_alloc | apply Kd.R_drewN | apply Kd.R_drew)); exact Kd.R_mono HO127.out (fun _ hk => ⟨hk.1.1, ⟨hk.1.2.1, ⟨hk.1.2.2.1, ⟨hk.1.2.2.2.1, ⟨hk.1.2.2.2.2.1, ⟨hk.1.2.2.2.2.2.1, ⟨hk.2, hk.1.2.2.2.2.2.2⟩⟩⟩⟩⟩⟩⟩)), HO130.out, HO133.out, (by (with_reducible repeat (first | apply Kd.R_alloc | apply Kd.R_drewN | apply Kd.R_drew)); exact Kd.R_mono HO136.out (fun _ hk => ⟨hk.1.1, ⟨hk.1.2.1, ⟨hk.1.2.2.1, ⟨hk.1.2.2.2.1, ⟨hk.1.2.2.2.2.1, ⟨hk.1.2.2.2.2.2.1, ⟨hk.2, hk.1.2.2.2.2.2.2⟩⟩⟩⟩⟩⟩⟩)), (by (with_reducible repeat (first | apply Kd.R_alloc | apply Kd.R_drewN | apply Kd.R_drew)); exact Kd.R_mono HO140.out (fun _ hk => ⟨hk.1.1, ⟨hk.1.2.1, ⟨hk.1.2.2.1, ⟨hk.1.2.2.2.1, ⟨hk.1.2.2.2.2.1, ⟨hk.1.2.2.2.2.2.1, ⟨hk.2, hk.1.2.2.2.2.2.2⟩⟩⟩⟩⟩⟩⟩)), (by (with_reducible repeat (first | apply Kd.R_alloc | apply Kd.R_drewN | apply Kd.R_drew)); exact Kd.R_mono HO143.out (fun _ hk => ⟨hk.1.1, ⟨hk.1.2.1, ⟨hk.1.2.2.1, ⟨hk.1.2.2.2.1, ⟨hk.1.2.2.2.2.1, ⟨hk.1.2.2.2.2.2.1, ⟨hk.2, hk.1.2.2.2.2.2.2⟩⟩⟩⟩⟩⟩⟩)), (by (with_reducible repeat (first | apply Kd.R_alloc | apply Kd.R_drewN | apply Kd.R_drew)); exact Kd.R_mono HO149.out (fun _ hk => ⟨hk.1.1.1.1.1.1.1.2, ⟨hk.1.1.1.1.1.1.2, ⟨hk.1.1.1.1.1.2, ⟨hk.1.1.1.1.2, ⟨hk.1.1.1.2, ⟨hk.1.1.2, ⟨hk.1.2, hk.2⟩⟩⟩⟩⟩⟩⟩)), BK111.out, HB.out⟩)
        ·skip
         rintro ⟨v139, v142, v148⟩ w49 ⟨hS_, h0_, h1_, h2_, h3_, h4_, h5_, h6_, h7_, h8_, h9_, h10_, h11_, h12_⟩
         have n0_ : Aside0 (Kd.R k25 25 w49 w.heap.size (fun k_ => some k_ ≠ (.slice Ao17 y115.length co17 : Value).ownBlock ∧ some k_ ≠ (.slice (some ad121) t118.length co19 : Value).ownBlock ∧ some k_ ≠ (.slice Ao39 t125.length co39 : Value).ownBlock ∧ some k_ ≠ (.slice Ao43 t134.length co43 : Value).ownBlock ∧ some k_ ≠ (v139 : Value).ownBlock ∧ some k_ ≠ (v142 : Value).ownBlock ∧ some k_ ≠ (v148 : Value).ownBlock ∧ k_ ≠ gb111) (.slice Ao22 t112.length co22) t112) := ⟨h0_⟩
         have n1_ : Aside0 (Kd.R k25 25 w49 w.heap.size (fun k_ => some k_ ≠ (.slice Ao22 t112.length co22 : Value).ownBlock ∧ some k_ ≠ (.slice (some ad121) t118.length co19 : Value).ownBlock ∧ some k_ ≠ (.slice Ao39 t125.length co39 : Value).ownBlock ∧ some k_ ≠ (.slice Ao43 t134.length co43 : Value).ownBlock ∧ some k_ ≠ (v139 : Value).ownBlock ∧ some k_ ≠ (v142 : Value).ownBlock ∧ some k_ ≠ (v148 : Value).ownBlock ∧ k_ ≠ gb111) (.slice Ao17 y115.length co17) y115) := ⟨h1_⟩
         have n2_ : Aside0 (Kd.R k25 25 w49 w.heap.size (fun k_ => some k_ ≠ (.slice Ao22 t112.length co22 : Value).ownBlock ∧ some k_ ≠ (.slice Ao17 y115.length co17 : Value).ownBlock ∧ some k_ ≠ (.slice Ao39 t125.length co39 : Value).ownBlock ∧ some k_ ≠ (.slice Ao43 t134.length co43 : Value).ownBlock ∧ some k_ ≠ (v139 : Value).ownBlock ∧ some k_ ≠ (v142 : Value).ownBlock ∧ some k_ ≠ (v148 : Value).ownBlock ∧ k_ ≠ gb111) (.slice (some ad121) t118.length co19) t118) := ⟨h2_⟩
         have n3_ : Aside0 (Kd.R k28 28 w49 w.heap.size (fun k_ => some k_ ≠ (.slice Ao38 t128.length co38 : Value).ownBlock ∧ some k_ ≠ (.slice Ao40 t131.length co40 : Value).ownBlock) (.slice Ao27 t122.length co27) t122) := ⟨h3_⟩
         have n4_ : Aside0 (Kd.R k25 25 w49 w.heap.size (fun k_ => some k_ ≠ (.slice Ao22 t112.length co22 : Value).ownBlock ∧ some k_ ≠ (.slice Ao17 y115.length co17 : Value).ownBlock ∧ some k_ ≠ (.slice (some ad121) t118.length co19 : Value).ownBlock ∧ some k_ ≠ (.slice Ao43 t134.length co43 : Value).ownBlock ∧ some k_ ≠ (v139 : Value).ownBlock ∧ some k_ ≠ (v142 : Value).ownBlock ∧ some k_ ≠ (v148 : Value).ownBlock ∧ k_ ≠ gb111) (.slice Ao39 t125.length co39) t125) := ⟨h4_⟩
         have n5_ : Aside0 (Kd.R k28 28 w49 w.heap.size (fun k_ => some k_ ≠ (.slice Ao27 t122.length co27 : Value).ownBlock ∧ some k_ ≠ (.slice Ao40 t131.length co40 : Value).ownBlock) (.slice Ao38 t128.length co38) t128) := ⟨h5_⟩
         have n6_ : Aside0 (Kd.R k28 28 w49 w.heap.size (fun k_ => some k_ ≠ (.slice Ao27 t122.length co27 : Value).ownBlock ∧ some k_ ≠ (.slice Ao38 t128.length co38 : Value).ownBlock) (.slice Ao40 t131.length co40) t131) := ⟨h6_⟩
         have n7_ : Aside0 (Kd.R k25 25 w49 w.heap.size (fun k_ => some k_ ≠ (.slice Ao22 t112.length co22 : Value).ownBlock ∧ some k_ ≠ (.slice Ao17 y115.length co17 : Value).ownBlock ∧ some k_ ≠ (.slice (some ad121) t118.length co19 : Value).ownBlock ∧ some k_ ≠ (.slice Ao39 t125.length co39 : Value).ownBlock ∧ some k_ ≠ (v139 : Value).ownBlock ∧ some k_ ≠ (v142 : Value).ownBlock ∧ some k_ ≠ (v148 : Value).ownBlock ∧ k_ ≠ gb111) (.slice Ao43 t134.length co43) t134) := ⟨h7_⟩
         have n8_ : Aside0 (Kd.R k25 25 w49 w.heap.size (fun k_ => some k_ ≠ (.slice Ao22 t112.length co22 : Value).ownBlock ∧ some k_ ≠ (.slice Ao17 y115.length co17 : Value).ownBlock ∧ some k_ ≠ (.slice (some ad121) t118.length co19 : Value).ownBlock ∧ some k_ ≠ (.slice Ao39 t125.length co39 : Value).ownBlock ∧ some k_ ≠ (.slice Ao43 t134.length co43 : Value).ownBlock ∧ some k_ ≠ (v142 : Value).ownBlock ∧ some k_ ≠ (v148 : Value).ownBlock ∧ k_ ≠ gb111) v139 t138) := ⟨h8_⟩
         have n9_ : Aside0 (Kd.R k25 25 w49 w.heap.size (fun k_ => some k_ ≠ (.slice Ao22 t112.length co22 : Value).ownBlock ∧ some k_ ≠ (.slice Ao17 y115.length co17 : Value).ownBlock ∧ some k_ ≠ (.slice (some ad121) t118.length co19 : Value).ownBlock ∧ some k_ ≠ (.slice Ao39 t125.length co39 : Value).ownBlock ∧ some k_ ≠ (.slice Ao43 t134.length co43 : Value).ownBlock ∧ some k_ ≠ (v139 : Value).ownBlock ∧ some k_ ≠ (v148 : Value).ownBlock ∧ k_ ≠ gb111) v142 y141) := ⟨h9_⟩
         have n10_ : Aside0 (Kd.R k25 25 w49 w.heap.size (fun k_ => some k_ ≠ (.slice Ao22 t112.length co22 : Value).ownBlock ∧ some k_ ≠ (.slice Ao17 y115.length co17 : Value).ownBlock ∧ some k_ ≠ (.slice (some ad121) t118.length co19 : Value).ownBlock ∧ some k_ ≠ (.slice Ao39 t125.length co39 : Value).ownBlock ∧ some k_ ≠ (.slice Ao43 t134.length co43 : Value).ownBlock ∧ some k_ ≠ (v139 : Value).ownBlock ∧ some k_ ≠ (v142 : Value).ownBlock ∧ k_ ≠ gb111) v148 y147) := ⟨h10_⟩
         have n11_ : Aside0 (w49.heap[gb111]? = some (.cells #[.string ((rd_T25 t118 0).f0), .string ((rd_T25 t118 0).f1)] 25 (0, 0))) := ⟨h11_⟩
         have n12_ : Aside0 (Below w.heap.size w w49) := ⟨h12_⟩
         clear HO114
         clear HO117
         clear HO120
         clear HO124
         clear HO127
         clear HO130
         clear HO133
         clear BK111
         clear HB
         clear h0_ h1_ h2_ h3_ h4_ h5_ h6_ h7_ h8_ h9_ h10_ h11_ h12_
         have HO114 := n0_
         have HO117 := n1_
         have HO120 := n2_
         have HO124 := n3_
         have HO127 := n4_
         have HO130 := n5_
         have HO133 := n6_
         have HO136 := n7_
         have HO140 := n8_
         have HO143 := n9_
         have HO149 := n10_
         have BK111 := n11_
         have HB := n12_
         clear n0_ n1_ n2_ n3_ n4_ n5_ n6_ n7_ n8_ n9_ n10_ n11_ n12_
         have hHeld : w49.cell? ⟨gb111, 0, none⟩ = some (.string ((rd_T25 t118 0).f0)) ∧ w49.cell? ⟨gb111, 1, none⟩ = some (.string ((rd_T25 t118 0).f1)) := hS_
         refine norm_ (a' := ?_) ?_ ?_
         rotate_left
         ·simp only [putAll, Act.put, List.setIfInBounds_toArray, List.set_cons_zero, List.set_cons_succ]
          rfl
         refine one_ (i := 10) (N := some 45) #[true, true, true, true, true, true, true, true, true, true, true, true, true, false, false, false, false] rfl rfl (one_of HT_.out (by kernel_rfl)) (by decide) (fun K hK => ?_)
         refine Kd.R_append_rows_step k25 (w0 := w) w.heap.size (by rfl) (.tmp 43) (.tmp 44) 26 25 (.agg #[(.string ⟨#[]⟩), (.string ⟨#[]⟩)]) 32 rfl Try.underlying26 info25 rfl (by decide) (by omega) v142 y141 t125 _ _ _ (fun k_ => some k_ ≠ (.slice Ao22 t112.length co22 : Value).ownBlock ∧ some k_ ≠ (.slice Ao17 y115.length co17 : Value).ownBlock ∧ some k_ ≠ (.slice (some ad121) t118.length co19 : Value).ownBlock ∧ some k_ ≠ (.slice Ao39 t125.length co39 : Value).ownBlock ∧ some k_ ≠ (.slice Ao43 t134.length co43 : Value).ownBlock ∧ some k_ ≠ (v139 : Value).ownBlock ∧ some k_ ≠ (v148 : Value).ownBlock ∧ k_ ≠ gb111) (fun _ => False) rfl rfl ?aO ?aR (fun _ _ h => h) (fun _ h => h.elim) ?aF ?aB ?aS ?aL ?_
         (case aR => repeat (first | exact (Kd.R_reads' HO127.out).2.2 | (with_reducible refine Kd.C_alloc ?_ _) | (with_reducible refine Kd.C_drewN ?_ _) | (with_reducible refine Kd.C_drew ?_)))
         (case aB => exact HB.out)
         (case aF => exact (fun k_ hk => ⟨Kd.fresh' (Kd.R_lt HO114.out) k_ hk, Kd.fresh' (Kd.R_lt HO117.out) k_ hk, Kd.fresh' (Kd.R_lt HO120.out) k_ hk, Kd.fresh' (Kd.R_lt HO127.out) k_ hk, Kd.fresh' (Kd.R_lt HO136.out) k_ hk, Kd.fresh' (Kd.R_lt HO140.out) k_ hk, Kd.fresh' (Kd.R_lt HO149.out) k_ hk, Kd.freshB (g := gb111) (o := .cells #[.string ((rd_T25 t118 0).f0), .string ((rd_T25 t118 0).f1)] 25 (0, 0)) BK111.out k_ hk⟩))
         (case aO => exact HO143.out)
         (case aS => exact (below_size HB.out))
         (case aL => have := LMc35.out; omega)
         intro v145 w50 ho hb hg hat
         rw [← Ny144.out] at ho
         have n0_ := as0 (blk_grown (g := gb111) (o := .cells #[.string ((rd_T25 t118 0).f0), .string ((rd_T25 t118 0).f1)] 25 (0, 0)) BK111.out hg (Kd.R_away HO143.out (fun _ hk => hk.2.2.2.2.2.2.2)))
         have n1_ := as0 (Kd.R_after (ok := (fun k_ => some k_ ≠ (.slice Ao17 y115.length co17 : Value).ownBlock ∧ some k_ ≠ (.slice (some ad121) t118.length co19 : Value).ownBlock ∧ some k_ ≠ (.slice Ao39 t125.length co39 : Value).ownBlock ∧ some k_ ≠ (.slice Ao43 t134.length co43 : Value).ownBlock ∧ some k_ ≠ (v139 : Value).ownBlock ∧ some k_ ≠ (v148 : Value).ownBlock ∧ k_ ≠ gb111)) (by (with_reducible repeat (first | apply Kd.R_alloc | apply Kd.R_drewN | apply Kd.R_drew)); exact Kd.R_mono HO114.out (fun _ hk => ⟨⟨hk.1, ⟨hk.2.1, ⟨hk.2.2.1, ⟨hk.2.2.2.1, ⟨hk.2.2.2.2.1, ⟨hk.2.2.2.2.2.2.1, hk.2.2.2.2.2.2.2⟩⟩⟩⟩⟩⟩, hk.2.2.2.2.2.1⟩)) hg hat)
         have n2_ := as0 (Kd.R_after (ok := (fun k_ => some k_ ≠ (.slice Ao22 t112.length co22 : Value).ownBlock ∧ some k_ ≠ (.slice (some ad121) t118.length co19 : Value).ownBlock ∧ some k_ ≠ (.slice Ao39 t125.length co39 : Value).ownBlock ∧ some k_ ≠ (.slice Ao43 t134.length co43 : Value).ownBlock ∧ some k_ ≠ (v139 : Value).ownBlock ∧ some k_ ≠ (v148 : Value).ownBlock ∧ k_ ≠ gb111)) (by (with_reducible repeat (first | apply Kd.R_alloc | apply Kd.R_drewN | apply Kd.R_drew)); exact Kd.R_mono HO117.out (fun _ hk => ⟨⟨hk.1, ⟨hk.2.1, ⟨hk.2.2.1, ⟨hk.2.2.2.1, ⟨hk.2.2.2.2.1, ⟨hk.2.2.2.2.2.2.1, hk.2.2.2.2.2.2.2⟩⟩⟩⟩⟩⟩, hk.2.2.2.2.2.1⟩)) hg hat)
         have n3_ := as0 (Kd.R_after (ok := (fun k_ => some k_ ≠ (.slice Ao22 t112.length co22 : Value).ownBlock ∧ some k_ ≠ (.slice Ao17 y115.length co17 : Value).ownBlock ∧ some k_ ≠ (.slice Ao39 t125.length co39 : Value).ownBlock ∧ some k_ ≠ (.slice Ao43 t134.length co43 : Value).ownBlock ∧ some k_ ≠ (v139 : Value).ownBlock ∧ some k_ ≠ (v148 : Value).ownBlock ∧ k_ ≠ gb111)) (by (with_reducible repeat (first | apply Kd.R_alloc | apply Kd.R_drewN | apply Kd.R_drew)); exact Kd.R_mono HO120.out (fun _ hk => ⟨⟨hk.1, ⟨hk.2.1, ⟨hk.2.2.1, ⟨hk.2.2.2.1, ⟨hk.2.2.2.2.1, ⟨hk.2.2.2.2.2.2.1, hk.2.2.2.2.2.2.2⟩⟩⟩⟩⟩⟩, hk.2.2.2.2.2.1⟩)) hg hat)
         have n4_ := as0 (Kd.R_over' HO124.out (Kd.R_typed HO143.out) (by decide) hg)
         have n5_ := as0 (Kd.R_after (ok := (fun k_ => some k_ ≠ (.slice Ao22 t112.length co22 : Value).ownBlock ∧ some k_ ≠ (.slice Ao17 y115.length co17 : Value).ownBlock ∧ some k_ ≠ (.slice (some ad121) t118.length co19 : Value).ownBlock ∧ some k_ ≠ (.slice Ao43 t134.length co43 : Value).ownBlock ∧ some k_ ≠ (v139 : Value).ownBlock ∧ some k_ ≠ (v148 : Value).ownBlock ∧ k_ ≠ gb111)) (by (with_reducible repeat (first | apply Kd.R_alloc | apply Kd.R_drewN | apply Kd.R_drew)); exact Kd.R_mono HO127.out (fun _ hk => ⟨⟨hk.1, ⟨hk.2.1, ⟨hk.2.2.1, ⟨hk.2.2.2.1, ⟨hk.2.2.2.2.1, ⟨hk.2.2.2.2.2.2.1, hk.2.2.2.2.2.2.2⟩⟩⟩⟩⟩⟩, hk.2.2.2.2.2.1⟩)) hg hat)
         have n6_ := as0 (Kd.R_over' HO130.out (Kd.R_typed HO143.out) (by decide) hg)
         have n7_ := as0 (Kd.R_over' HO133.out (Kd.R_typed HO143.out) (by decide) hg)
         have n8_ := as0 (Kd.R_after (ok := (fun k_ => some k_ ≠ (.slice Ao22 t112.length co22 : Value).ownBlock ∧ some k_ ≠ (.slice Ao17 y115.length co17 : Value).ownBlock ∧ some k_ ≠ (.slice (some ad121) t118.length co19 : Value).ownBlock ∧ some k_ ≠ (.slice Ao39 t125.length co39 : Value).ownBlock ∧ some k_ ≠ (v139 : Value).ownBlock ∧ some k_ ≠ (v148 : Value).ownBlock ∧ k_ ≠ gb111)) (by (with_reducible repeat (first | apply Kd.R_alloc | apply Kd.R_drewN | apply Kd.R_drew)); exact Kd.R_mono HO136.out (fun _ hk => ⟨⟨hk.1, ⟨hk.2.1, ⟨hk.2.2.1, ⟨hk.2.2.2.1, ⟨hk.2.2.2.2.1, ⟨hk.2.2.2.2.2.2.1, hk.2.2.2.2.2.2.2⟩⟩⟩⟩⟩⟩, hk.2.2.2.2.2.1⟩)) hg hat)
         have n9_ := as0 (Kd.R_after (ok := (fun k_ => some k_ ≠ (.slice Ao22 t112.length co22 : Value).ownBlock ∧ some k_ ≠ (.slice Ao17 y115.length co17 : Value).ownBlock ∧ some k_ ≠ (.slice (some ad121) t118.length co19 : Value).ownBlock ∧ some k_ ≠ (.slice Ao39 t125.length co39 : Value).ownBlock ∧ some k_ ≠ (.slice Ao43 t134.length co43 : Value).ownBlock ∧ some k_ ≠ (v148 : Value).ownBlock ∧ k_ ≠ gb111)) (by (with_reducible repeat (first | apply Kd.R_alloc | apply Kd.R_drewN | apply Kd.R_drew)); exact Kd.R_mono HO140.out (fun _ hk => ⟨⟨hk.1, ⟨hk.2.1, ⟨hk.2.2.1, ⟨hk.2.2.2.1, ⟨hk.2.2.2.2.1, ⟨hk.2.2.2.2.2.2.1, hk.2.2.2.2.2.2.2⟩⟩⟩⟩⟩⟩, hk.2.2.2.2.2.1⟩)) hg hat)
         have n10_ := as0 (Kd.R_after (ok := (fun k_ => some k_ ≠ (.slice Ao22 t112.length co22 : Value).ownBlock ∧ some k_ ≠ (.slice Ao17 y115.length co17 : Value).ownBlock ∧ some k_ ≠ (.slice (some ad121) t118.length co19 : Value).ownBlock ∧ some k_ ≠ (.slice Ao39 t125.length co39 : Value).ownBlock ∧ some k_ ≠ (.slice Ao43 t134.length co43 : Value).ownBlock ∧ some k_ ≠ (v139 : Value).ownBlock ∧ k_ ≠ gb111)) (by (with_reducible repeat (first | apply Kd.R_alloc | apply Kd.R_drewN | apply Kd.R_drew)); exact Kd.R_mono HO149.out (fun _ hk => ⟨⟨hk.1, ⟨hk.2.1, ⟨hk.2.2.1, ⟨hk.2.2.2.1, ⟨hk.2.2.2.2.1, ⟨hk.2.2.2.2.2.1, hk.2.2.2.2.2.2.2⟩⟩⟩⟩⟩⟩, hk.2.2.2.2.2.2.1⟩)) hg hat)
         have n11_ := as0 (hb)
         have n12_ := as0 (ho)
         clear BK111
         clear HO114
         clear HO117
         clear HO120
         clear HO124
         clear HO127
         clear HO130
         clear HO133
         clear HO136
         clear HO140
         clear HO149
         clear HB
         clear HO143
         have BK111 := n0_
         have HO114 := n1_
         have HO117 := n2_
         have HO120 := n3_
         have HO124 := n4_
         have HO127 := n5_
         have HO130 := n6_
         have HO133 := n7_
         have HO136 := n8_
         have HO140 := n9_
         have HO149 := n10_
         have HB := n11_
         have HO146 := n12_
         clear n0_ n1_ n2_ n3_ n4_ n5_ n6_ n7_ n8_ n9_ n10_ n11_ n12_
         clear ho hb hg hat
         refine hK.out _ _ ⟨(blk_cell BK111.out 0).trans rfl, (blk_cell BK111.out 1).trans rfl⟩ (fun hHeld => ?_)
         clear hK K
         refine norm_ (a' := ?_) ?_ ?_
         rotate_left
         ·show Act.put _ (some 45) _ = _
          simp only [Act.put, List.setIfInBounds_toArray, List.set_cons_zero, List.set_cons_succ, i64_w, i32_w]
          rfl
         exact norm_ (by first | (simp only [putAll, Act.put, List.setIfInBounds_toArray, List.set_cons_zero, List.set_cons_succ]; done) | (simp only [putAll, Act.put, List.setIfInBounds_toArray, List.set_cons_zero, List.set_cons_succ]; rfl)) (hJ7_8_10_12 (v139, v142, v145, v148) _ ⟨hHeld, (by (with_reducible repeat (first | apply Kd.R_alloc | apply Kd.R_drewN | apply Kd.R_drew)); exact Kd.R_mono HO114.out (fun _ hk => ⟨hk.1.1, ⟨hk.1.2.1, ⟨hk.1.2.2.1, ⟨hk.1.2.2.2.1, ⟨hk.1.2.2.2.2.1, ⟨hk.2, ⟨hk.1.2.2.2.2.2.1, hk.1.2.2.2.2.2.2⟩⟩⟩⟩⟩⟩⟩)), (by (with_reducible repeat (first | apply Kd.R_alloc | apply Kd.R_drewN | apply Kd.R_drew)); exact Kd.R_mono HO117.out (fun _ hk => ⟨hk.1.1, ⟨hk.1.2.1, ⟨hk.1.2.2.1, ⟨hk.1.2.2.2.1, ⟨hk.1.2.2.2.2.1, ⟨hk.2, ⟨hk.1.2.2.2.2.2.1, hk.1.2.2.2.2.2.2⟩⟩⟩⟩⟩⟩⟩)), (by (with_reducible repeat (first | apply Kd.R_alloc | apply Kd.R_drewN | apply Kd.R_drew)); exact Kd.R_mono HO120.out (fun _ hk => ⟨hk.1.1, ⟨hk.1.2.1, ⟨hk.1.2.2.1, ⟨hk.1.2.2.2.1, ⟨hk.1.2.2.2.2.1, ⟨hk.2, ⟨hk.1.2.2.2.2.2.1, hk.1.2.2.2.2.2.2⟩⟩⟩⟩⟩⟩⟩)), HO124.out, (by (with_reducible repeat (first | apply Kd.R_alloc | apply Kd.R_drewN | apply Kd.R_drew)); exact Kd.R_mono HO127.out (fun _ hk => ⟨hk.1.1, ⟨hk.1.2.1, ⟨hk.1.2.2.1, ⟨hk.1.2.2.2.1, ⟨hk.1.2.2.2.2.1, ⟨hk.2, ⟨hk.1.2.2.2.2.2.1, hk.1.2.2.2.2.2.2⟩⟩⟩⟩⟩⟩⟩)), HO130.out, HO133.out, (by (with_reducible repeat (first | apply Kd.R_alloc | apply Kd.R_drewN | apply Kd.R_drew)); exact Kd.R_mono HO136.out (fun _ hk => ⟨hk.1.1, ⟨hk.1.2.1, ⟨hk.1.2.2.1, ⟨hk.1.2.2.2.1, ⟨hk.1.2.2.2.2.1, ⟨hk.2, ⟨hk.1.2.2.2.2.2.1, hk.1.2.2.2.2.2.2⟩⟩⟩⟩⟩⟩⟩)), (by (with_reducible repeat (first | apply Kd.R_alloc | apply Kd.R_drewN | apply Kd.R_drew)); exact Kd.R_mono HO140.out (fun _ hk => ⟨hk.1.1, ⟨hk.1.2.1, ⟨hk.1.2.2.1, ⟨hk.1.2.2.2.1, ⟨hk.1.2.2.2.2.1, ⟨hk.2, ⟨hk.1.2.2.2.2.2.1, hk.1.2.2.2.2.2.2⟩⟩⟩⟩⟩⟩⟩)), HO146.out, (by (with_reducible repeat (first | apply Kd.R_alloc | apply Kd.R_drewN | apply Kd.R_drew)); exact Kd.R_mono HO149.out (fun _ hk => ⟨hk.1.1, ⟨hk.1.2.1, ⟨hk.1.2.2.1, ⟨hk.1.2.2.2.1, ⟨hk.1.2.2.2.2.1, ⟨hk.1.2.2.2.2.2.1, ⟨hk.2, hk.1.2.2.2.2.2.2⟩⟩⟩⟩⟩⟩⟩)), BK111.out, HB.out⟩)
       ·skip
        rintro ⟨v139, v142, v145⟩ w48 ⟨hS_, h0_, h1_, h2_, h3_, h4_, h5_, h6_, h7_, h8_, h9_, h10_, h11_⟩
        have n0_ : Aside0 (Kd.R k25 25 w48 w.heap.size (fun k_ => some k_ ≠ (.slice Ao17 y115.length co17 : Value).ownBlock ∧ some k_ ≠ (.slice (some ad121) t118.length co19 : Value).ownBlock ∧ some k_ ≠ (.slice Ao39 t125.length co39 : Value).ownBlock ∧ some k_ ≠ (.slice Ao43 t134.length co43 : Value).ownBlock ∧ some k_ ≠ (v139 : Value).ownBlock ∧ some k_ ≠ (v145 : Value).ownBlock ∧ k_ ≠ gb111) (.slice Ao22 t112.length co22) t112) := ⟨h0_⟩
        have n1_ : Aside0 (Kd.R k25 25 w48 w.heap.size (fun k_ => some k_ ≠ (.slice Ao22 t112.length co22 : Value).ownBlock ∧ some k_ ≠ (.slice (some ad121) t118.length co19 : Value).ownBlock ∧ some k_ ≠ (.slice Ao39 t125.length co39 : Value).ownBlock ∧ some k_ ≠ (.slice Ao43 t134.length co43 : Value).ownBlock ∧ some k_ ≠ (v139 : Value).ownBlock ∧ some k_ ≠ (v145 : Value).ownBlock ∧ k_ ≠ gb111) (.slice Ao17 y115.length co17) y115) := ⟨h1_⟩
        have n2_ : Aside0 (Kd.R k25 25 w48 w.heap.size (fun k_ => some k_ ≠ (.slice Ao22 t112.length co22 : Value).ownBlock ∧ some k_ ≠ (.slice Ao17 y115.length co17 : Value).ownBlock ∧ some k_ ≠ (.slice Ao39 t125.length co39 : Value).ownBlock ∧ some k_ ≠ (.slice Ao43 t134.length co43 : Value).ownBlock ∧ some k_ ≠ (v139 : Value).ownBlock ∧ some k_ ≠ (v145 : Value).ownBlock ∧ k_ ≠ gb111) (.slice (some ad121) t118.length co19) t118) := ⟨h2_⟩
        have n3_ : Aside0 (Kd.R k28 28 w48 w.heap.size (fun k_ => some k_ ≠ (.slice Ao38 t128.length co38 : Value).ownBlock ∧ some k_ ≠ (.slice Ao40 t131.length co40 : Value).ownBlock) (.slice Ao27 t122.length co27) t122) := ⟨h3_⟩
        have n4_ : Aside0 (Kd.R k25 25 w48 w.heap.size (fun k_ => some k_ ≠ (.slice Ao22 t112.length co22 : Value).ownBlock ∧ some k_ ≠ (.slice Ao17 y115.length co17 : Value).ownBlock ∧ some k_ ≠ (.slice (some ad121) t118.length co19 : Value).ownBlock ∧ some k_ ≠ (.slice Ao43 t134.length co43 : Value).ownBlock ∧ some k_ ≠ (v139 : Value).ownBlock ∧ some k_ ≠ (v145 : Value).ownBlock ∧ k_ ≠ gb111) (.slice Ao39 t125.length co39) t125) := ⟨h4_⟩
        have n5_ : Aside0 (Kd.R k28 28 w48 w.heap.size (fun k_ => some k_ ≠ (.slice Ao27 t122.length co27 : Value).ownBlock ∧ some k_ ≠ (.slice Ao40 t131.length co40 : Value).ownBlock) (.slice Ao38 t128.length co38) t128) := ⟨h5_⟩
        have n6_ : Aside0 (Kd.R k28 28 w48 w.heap.size (fun k_ => some k_ ≠ (.slice Ao27 t122.length co27 : Value).ownBlock ∧ some k_ ≠ (.slice Ao38 t128.length co38 : Value).ownBlock) (.slice Ao40 t131.length co40) t131) := ⟨h6_⟩
        have n7_ : Aside0 (Kd.R k25 25 w48 w.heap.size (fun k_ => some k_ ≠ (.slice Ao22 t112.length co22 : Value).ownBlock ∧ some k_ ≠ (.slice Ao17 y115.length co17 : Value).ownBlock ∧ some k_ ≠ (.slice (some ad121) t118.length co19 : Value).ownBlock ∧ some k_ ≠ (.slice Ao39 t125.length co39 : Value).ownBlock ∧ some k_ ≠ (v139 : Value).ownBlock ∧ some k_ ≠ (v145 : Value).ownBlock ∧ k_ ≠ gb111) (.slice Ao43 t134.length co43) t134) := ⟨h7_⟩
        have n8_ : Aside0 (Kd.R k25 25 w48 w.heap.size (fun k_ => some k_ ≠ (.slice Ao22 t112.length co22 : Value).ownBlock ∧ some k_ ≠ (.slice Ao17 y115.length co17 : Value).ownBlock ∧ some k_ ≠ (.slice (some ad121) t118.length co19 : Value).ownBlock ∧ some k_ ≠ (.slice Ao39 t125.length co39 : Value).ownBlock ∧ some k_ ≠ (.slice Ao43 t134.length co43 : Value).ownBlock ∧ some k_ ≠ (v145 : Value).ownBlock ∧ k_ ≠ gb111) v139 t138) := ⟨h8_⟩
        have n9_ : Aside0 (Kd.R k25 25 w48 w.heap.size (fun k_ => some k_ ≠ (.slice Ao22 t112.length co22 : Value).ownBlock ∧ some k_ ≠ (.slice Ao17 y115.length co17 : Value).ownBlock ∧ some k_ ≠ (.slice (some ad121) t118.length co19 : Value).ownBlock ∧ some k_ ≠ (.slice Ao39 t125.length co39 : Value).ownBlock ∧ some k_ ≠ (.slice Ao43 t134.length co43 : Value).ownBlock ∧ some k_ ≠ (v139 : Value).ownBlock ∧ k_ ≠ gb111) v145 y144) := ⟨h9_⟩
        have n10_ : Aside0 (w48.heap[gb111]? = some (.cells #[.string ((rd_T25 t118 0).f0), .string ((rd_T25 t118 0).f1)] 25 (0, 0))) := ⟨h10_⟩
        have n11_ : Aside0 (Below w.heap.size w w48) := ⟨h11_⟩
        clear HO114
        clear HO117
        clear HO120
        clear HO124
        clear HO127
        clear HO130
        clear HO133
        clear BK111
        clear HB
        clear h0_ h1_ h2_ h3_ h4_ h5_ h6_ h7_ h8_ h9_ h10_ h11_
        have HO114 := n0_
        have HO117 := n1_
        have HO120 := n2_
        have HO124 := n3_
        have HO127 := n4_
        have HO130 := n5_
        have HO133 := n6_
        have HO136 := n7_
        have HO140 := n8_
        have HO146 := n9_
        have BK111 := n10_
        have HB := n11_
        clear n0_ n1_ n2_ n3_ n4_ n5_ n6_ n7_ n8_ n9_ n10_ n11_
        have hHeld : w48.cell? ⟨gb111, 0, none⟩ = some (.string ((rd_T25 t118 0).f0)) ∧ w48.cell? ⟨gb111, 1, none⟩ = some (.string ((rd_T25 t118 0).f1)) := hS_
        refine norm_ (a' := ?_) ?_ ?_
        rotate_left
        ·simp only [putAll, Act.put, List.setIfInBounds_toArray, List.set_cons_zero, List.set_cons_succ]
         rfl
        refine one_ (i := 12) (N := some 47) #[true, true, true, true, true, true, true, true, true, true, true, true, true, false, false, false, false] rfl rfl (one_of HT_.out (by kernel_rfl)) (by decide) (fun K hK => ?_)
        refine Kd.R_lit_step k25 _ 25 ?hg (N := 47) ?hd (xs := ([(⟨(rd_T25 t118 0).f0, (rd_T25 t118 0).f1⟩ : S25)] : List (S25))) (inner := [.string ((rd_T25 t118 0).f0), .string ((rd_T25 t118 0).f1)]) (ok := fun _ => True) (okp := fun _ => True) ?hr ?hp (fun _ hk => hk) trivial (Below.refl _ _) (Nat.le_refl _) (by simp) ?_; (case hd => rfl); (case hg => rfl); (case hr => first | (go_simp; done) | (go_simp; rfl)); (case hp => exact (Reps.c2 (show Kd.M k25 _ _ _ (⟨(rd_T25 t118 0).f0, (rd_T25 t118 0).f1⟩ : S25) [.string ((rd_T25 t118 0).f0), .string ((rd_T25 t118 0).f1)] from (k25_mkM _ _ _ (⟨(rd_T25 t118 0).f0, (rd_T25 t118 0).f1⟩ : S25) )) (Reps.none _ _)))
        intro v148 w49 ho50 hb hg_ hnew_
        clear hg_ hnew_
        (first | rw [← Ny147.out] at ho50 | (simp only [Int.reduceToNat] at ho50; rw [← Ny147.out] at ho50))
        have n0_ := as0 (Kd.R_elder' HO114.out (Kd.R_base ho50) hb)
        have n1_ := as0 (Kd.R_elder' HO117.out (Kd.R_base ho50) hb)
        have n2_ := as0 (Kd.R_elder' HO120.out (Kd.R_base ho50) hb)
        have n3_ := as0 (Kd.R_below HO124.out hb)
        have n4_ := as0 (Kd.R_elder' HO127.out (Kd.R_base ho50) hb)
        have n5_ := as0 (Kd.R_below HO130.out hb)
        have n6_ := as0 (Kd.R_below HO133.out hb)
        have n7_ := as0 (Kd.R_elder' HO136.out (Kd.R_base ho50) hb)
        have n8_ := as0 (Kd.R_elder' HO140.out (Kd.R_base ho50) hb)
        have n9_ := as0 (Kd.R_elder' HO146.out (Kd.R_base ho50) hb)
        have n10_ := as0 (Kd.R_lower (Kd.R_newB (Kd.R_new' (Kd.R_new' (Kd.R_new' (Kd.R_new' (Kd.R_new' (Kd.R_new' (Kd.R_new' ho50 (Kd.R_lt HO114.out)) (Kd.R_lt HO117.out)) (Kd.R_lt HO120.out)) (Kd.R_lt HO127.out)) (Kd.R_lt HO136.out)) (Kd.R_lt HO140.out)) (Kd.R_lt HO146.out)) (g := gb111) (o := .cells #[.string ((rd_T25 t118 0).f0), .string ((rd_T25 t118 0).f1)] 25 (0, 0)) BK111.out) (below_size HB.out))
        have n11_ := as0 (blk_below (g := gb111) (o := .cells #[.string ((rd_T25 t118 0).f0), .string ((rd_T25 t118 0).f1)] 25 (0, 0)) BK111.out hb)
        have n12_ := as0 (below_step HB.out hb)
        clear HO114
        clear HO117
        clear HO120
        clear HO124
        clear HO127
        clear HO130
        clear HO133
        clear HO136
        clear HO140
        clear HO146
        clear BK111
        clear HB
        have HO114 := n0_
        have HO117 := n1_
        have HO120 := n2_
        have HO124 := n3_
        have HO127 := n4_
        have HO130 := n5_
        have HO133 := n6_
        have HO136 := n7_
        have HO140 := n8_
        have HO146 := n9_
        have HO149 := n10_
        have BK111 := n11_
        have HB := n12_
        clear n0_ n1_ n2_ n3_ n4_ n5_ n6_ n7_ n8_ n9_ n10_ n11_ n12_
        clear hb ho50
        refine hK.out _ _ ⟨(blk_cell BK111.out 0).trans rfl, (blk_cell BK111.out 1).trans rfl⟩ (fun hHeld => ?_)
        clear hK K
        refine norm_ (a' := ?_) ?_ ?_
        rotate_left
        ·show Act.put _ (some 47) _ = _
         simp only [Act.put, List.setIfInBounds_toArray, List.set_cons_zero, List.set_cons_succ, i64_w, i32_w]
         rfl
        exact norm_ (by first | (simp only [putAll, Act.put, List.setIfInBounds_toArray, List.set_cons_zero, List.set_cons_succ]; done) | (simp only [putAll, Act.put, List.setIfInBounds_toArray, List.set_cons_zero, List.set_cons_succ]; rfl)) (hJ7_8_10_12 (v139, v142, v145, v148) _ ⟨hHeld, (by (with_reducible repeat (first | apply Kd.R_alloc | apply Kd.R_drewN | apply Kd.R_drew)); exact Kd.R_mono HO114.out (fun _ hk => ⟨hk.1.1, ⟨hk.1.2.1, ⟨hk.1.2.2.1, ⟨hk.1.2.2.2.1, ⟨hk.1.2.2.2.2.1, ⟨hk.1.2.2.2.2.2.1, ⟨hk.2, hk.1.2.2.2.2.2.2⟩⟩⟩⟩⟩⟩⟩)), (by (with_reducible repeat (first | apply Kd.R_alloc | apply Kd.R_drewN | apply Kd.R_drew)); exact Kd.R_mono HO117.out (fun _ hk => ⟨hk.1.1, ⟨hk.1.2.1, ⟨hk.1.2.2.1, ⟨hk.1.2.2.2.1, ⟨hk.1.2.2.2.2.1, ⟨hk.1.2.2.2.2.2.1, ⟨hk.2, hk.1.2.2.2.2.2.2⟩⟩⟩⟩⟩⟩⟩)), (by (with_reducible repeat (first | apply Kd.R_alloc | apply Kd.R_drewN | apply Kd.R_drew)); exact Kd.R_mono HO120.out (fun _ hk => ⟨hk.1.1, ⟨hk.1.2.1, ⟨hk.1.2.2.1, ⟨hk.1.2.2.2.1, ⟨hk.1.2.2.2.2.1, ⟨hk.1.2.2.2.2.2.1, ⟨hk.2, hk.1.2.2.2.2.2.2⟩⟩⟩⟩⟩⟩⟩)), HO124.out, (by (with_reducible repeat (first | apply Kd.R_alloc | apply Kd.R_drewN | apply Kd.R_drew)); exact Kd.R_mono HO127.out (fun _ hk => ⟨hk.1.1, ⟨hk.1.2.1, ⟨hk.1.2.2.1, ⟨hk.1.2.2.2.1, ⟨hk.1.2.2.2.2.1, ⟨hk.1.2.2.2.2.2.1, ⟨hk.2, hk.1.2.2.2.2.2.2⟩⟩⟩⟩⟩⟩⟩)), HO130.out, HO133.out, (by (with_reducible repeat (first | apply Kd.R_alloc | apply Kd.R_drewN | apply Kd.R_drew)); exact Kd.R_mono HO136.out (fun _ hk => ⟨hk.1.1, ⟨hk.1.2.1, ⟨hk.1.2.2.1, ⟨hk.1.2.2.2.1, ⟨hk.1.2.2.2.2.1, ⟨hk.1.2.2.2.2.2.1, ⟨hk.2, hk.1.2.2.2.2.2.2⟩⟩⟩⟩⟩⟩⟩)), (by (with_reducible repeat (first | apply Kd.R_alloc | apply Kd.R_drewN | apply Kd.R_drew)); exact Kd.R_mono HO140.out (fun _ hk => ⟨hk.1.1, ⟨hk.1.2.1, ⟨hk.1.2.2.1, ⟨hk.1.2.2.2.1, ⟨hk.1.2.2.2.2.1, ⟨hk.1.2.2.2.2.2.1, ⟨hk.2, hk.1.2.2.2.2.2.2⟩⟩⟩⟩⟩⟩⟩)), (by (with_reducible repeat (first | apply Kd.R_alloc | apply Kd.R_drewN | apply Kd.R_drew)); exact Kd.R_mono HO146.out (fun _ hk => ⟨hk.1.1, ⟨hk.1.2.1, ⟨hk.1.2.2.1, ⟨hk.1.2.2.2.1, ⟨hk.1.2.2.2.2.1, ⟨hk.1.2.2.2.2.2.1, ⟨hk.2, hk.1.2.2.2.2.2.2⟩⟩⟩⟩⟩⟩⟩)), (by (with_reducible repeat (first | apply Kd.R_alloc | apply Kd.R_drewN | apply Kd.R_drew)); exact Kd.R_mono HO149.out (fun _ hk => ⟨hk.1.1.1.1.1.1.1.2, ⟨hk.1.1.1.1.1.1.2, ⟨hk.1.1.1.1.1.2, ⟨hk.1.1.1.1.2, ⟨hk.1.1.1.2, ⟨hk.1.1.2, ⟨hk.1.2, hk.2⟩⟩⟩⟩⟩⟩⟩)), BK111.out, HB.out⟩)
      rintro ⟨v139, v142, v145, v148⟩ w50 ⟨hS_, h0_, h1_, h2_, h3_, h4_, h5_, h6_, h7_, h8_, h9_, h10_, h11_, h12_⟩
      have n0_ : Aside0 (Kd.R k25 25 w50 w.heap.size (fun k_ => some k_ ≠ (.slice Ao17 y115.length co17 : Value).ownBlock ∧ some k_ ≠ (.slice (some ad121) t118.length co19 : Value).ownBlock ∧ some k_ ≠ (.slice Ao39 t125.length co39 : Value).ownBlock ∧ some k_ ≠ (.slice Ao43 t134.length co43 : Value).ownBlock ∧ some k_ ≠ (v139 : Value).ownBlock ∧ some k_ ≠ (v145 : Value).ownBlock ∧ some k_ ≠ (v148 : Value).ownBlock ∧ k_ ≠ gb111) (.slice Ao22 t112.length co22) t112) := ⟨h0_⟩
      have n1_ : Aside0 (Kd.R k25 25 w50 w.heap.size (fun k_ => some k_ ≠ (.slice Ao22 t112.length co22 : Value).ownBlock ∧ some k_ ≠ (.slice (some ad121) t118.length co19 : Value).ownBlock ∧ some k_ ≠ (.slice Ao39 t125.length co39 : Value).ownBlock ∧ some k_ ≠ (.slice Ao43 t134.length co43 : Value).ownBlock ∧ some k_ ≠ (v139 : Value).ownBlock ∧ some k_ ≠ (v145 : Value).ownBlock ∧ some k_ ≠ (v148 : Value).ownBlock ∧ k_ ≠ gb111) (.slice Ao17 y115.length co17) y115) := ⟨h1_⟩
      have n2_ : Aside0 (Kd.R k25 25 w50 w.heap.size (fun k_ => some k_ ≠ (.slice Ao22 t112.length co22 : Value).ownBlock ∧ some k_ ≠ (.slice Ao17 y115.length co17 : Value).ownBlock ∧ some k_ ≠ (.slice Ao39 t125.length co39 : Value).ownBlock ∧ some k_ ≠ (.slice Ao43 t134.length co43 : Value).ownBlock ∧ some k_ ≠ (v139 : Value).ownBlock ∧ some k_ ≠ (v145 : Value).ownBlock ∧ some k_ ≠ (v148 : Value).ownBlock ∧ k_ ≠ gb111) (.slice (some ad121) t118.length co19) t118) := ⟨h2_⟩
      have n3_ : Aside0 (Kd.R k28 28 w50 w.heap.size (fun k_ => some k_ ≠ (.slice Ao38 t128.length co38 : Value).ownBlock ∧ some k_ ≠ (.slice Ao40 t131.length co40 : Value).ownBlock) (.slice Ao27 t122.length co27) t122) := ⟨h3_⟩
      have n4_ : Aside0 (Kd.R k25 25 w50 w.heap.size (fun k_ => some k_ ≠ (.slice Ao22 t112.length co22 : Value).ownBlock ∧ some k_ ≠ (.slice Ao17 y115.length co17 : Value).ownBlock ∧ some k_ ≠ (.slice (some ad121) t118.length co19 : Value).ownBlock ∧ some k_ ≠ (.slice Ao43 t134.length co43 : Value).ownBlock ∧ some k_ ≠ (v139 : Value).ownBlock ∧ some k_ ≠ (v145 : Value).ownBlock ∧ some k_ ≠ (v148 : Value).ownBlock ∧ k_ ≠ gb111) (.slice Ao39 t125.length co39) t125) := ⟨h4_⟩
      have n5_ : Aside0 (Kd.R k28 28 w50 w.heap.size (fun k_ => some k_ ≠ (.slice Ao27 t122.length co27 : Value).ownBlock ∧ some k_ ≠ (.slice Ao40 t131.length co40 : Value).ownBlock) (.slice Ao38 t128.length co38) t128) := ⟨h5_⟩
      have n6_ : Aside0 (Kd.R k28 28 w50 w.heap.size (fun k_ => some k_ ≠ (.slice Ao27 t122.length co27 : Value).ownBlock ∧ some k_ ≠ (.slice Ao38 t128.length co38 : Value).ownBlock) (.slice Ao40 t131.length co40) t131) := ⟨h6_⟩
      have n7_ : Aside0 (Kd.R k25 25 w50 w.heap.size (fun k_ => some k_ ≠ (.slice Ao22 t112.length co22 : Value).ownBlock ∧ some k_ ≠ (.slice Ao17 y115.length co17 : Value).ownBlock ∧ some k_ ≠ (.slice (some ad121) t118.length co19 : Value).ownBlock ∧ some k_ ≠ (.slice Ao39 t125.length co39 : Value).ownBlock ∧ some k_ ≠ (v139 : Value).ownBlock ∧ some k_ ≠ (v145 : Value).ownBlock ∧ some k_ ≠ (v148 : Value).ownBlock ∧ k_ ≠ gb111) (.slice Ao43 t134.length co43) t134) := ⟨h7_⟩
      have n8_ : Aside0 (Kd.R k25 25 w50 w.heap.size (fun k_ => some k_ ≠ (.slice Ao22 t112.length co22 : Value).ownBlock ∧ some k_ ≠ (.slice Ao17 y115.length co17 : Value).ownBlock ∧ some k_ ≠ (.slice (some ad121) t118.length co19 : Value).ownBlock ∧ some k_ ≠ (.slice Ao39 t125.length co39 : Value).ownBlock ∧ some k_ ≠ (.slice Ao43 t134.length co43 : Value).ownBlock ∧ some k_ ≠ (v145 : Value).ownBlock ∧ some k_ ≠ (v148 : Value).ownBlock ∧ k_ ≠ gb111) v139 t138) := ⟨h8_⟩
      have n9_ : Aside0 (Kd.R k25 25 w50 w.heap.size (fun k_ => some k_ ≠ (.slice Ao22 t112.length co22 : Value).ownBlock ∧ some k_ ≠ (.slice Ao17 y115.length co17 : Value).ownBlock ∧ some k_ ≠ (.slice (some ad121) t118.length co19 : Value).ownBlock ∧ some k_ ≠ (.slice Ao39 t125.length co39 : Value).ownBlock ∧ some k_ ≠ (.slice Ao43 t134.length co43 : Value).ownBlock ∧ some k_ ≠ (v139 : Value).ownBlock ∧ some k_ ≠ (v148 : Value).ownBlock ∧ k_ ≠ gb111) v145 y144) := ⟨h9_⟩
      have n10_ : Aside0 (Kd.R k25 25 w50 w.heap.size (fun k_ => some k_ ≠ (.slice Ao22 t112.length co22 : Value).ownBlock ∧ some k_ ≠ (.slice Ao17 y115.length co17 : Value).ownBlock ∧ some k_ ≠ (.slice (some ad121) t118.length co19 : Value).ownBlock ∧ some k_ ≠ (.slice Ao39 t125.length co39 : Value).ownBlock ∧ some k_ ≠ (.slice Ao43 t134.length co43 : Value).ownBlock ∧ some k_ ≠ (v139 : Value).ownBlock ∧ some k_ ≠ (v145 : Value).ownBlock ∧ k_ ≠ gb111) v148 y147) := ⟨h10_⟩
      have n11_ : Aside0 (w50.heap[gb111]? = some (.cells #[.string ((rd_T25 t118 0).f0), .string ((rd_T25 t118 0).f1)] 25 (0, 0))) := ⟨h11_⟩
      have n12_ : Aside0 (Below w.heap.size w w50) := ⟨h12_⟩
      clear HO114
      clear HO117
      clear HO120
      clear HO124
      clear HO127
      clear HO130
      clear HO133
      clear BK111
      clear HB
      clear h0_ h1_ h2_ h3_ h4_ h5_ h6_ h7_ h8_ h9_ h10_ h11_ h12_
      have HO114 := n0_
      have HO117 := n1_
      have HO120 := n2_
      have HO124 := n3_
      have HO127 := n4_
      have HO130 := n5_
      have HO133 := n6_
      have HO136 := n7_
      have HO140 := n8_
      have HO146 := n9_
      have HO149 := n10_
      have BK111 := n11_
      have HB := n12_
      clear n0_ n1_ n2_ n3_ n4_ n5_ n6_ n7_ n8_ n9_ n10_ n11_ n12_
      have hHeld : w50.cell? ⟨gb111, 0, none⟩ = some (.string ((rd_T25 t118 0).f0)) ∧ w50.cell? ⟨gb111, 1, none⟩ = some (.string ((rd_T25 t118 0).f1)) := hS_
      obtain ⟨Ao52, co52, eo52⟩ := Kd.R_slice HO149.out
      (first | subst eo52 | (injection eo52 with f1_ f2_ f3_; have f4_ := f1_.symm; have f5_ := f3_.symm; clear f1_ f2_ f3_; subst f4_; subst f5_))
      refine norm_ (a' := ?_) ?_ ?_
      rotate_left
      ·simp only [putAll, Act.put, List.setIfInBounds_toArray, List.set_cons_zero, List.set_cons_succ]
       rfl
      refine one_ (i := 13) (N := some 48) #[true, true, true, true, true, true, true, true, true, true, true, true, true, true, false, false, false] rfl rfl (one_of HT_.out (by kernel_rfl)) (by decide) (fun K hK => ?_)
      refine Kd.R_append_rows_step k25 (w0 := w) w.heap.size (by rfl) (.tmp 45) (.tmp 47) 26 25 (.agg #[(.string ⟨#[]⟩), (.string ⟨#[]⟩)]) 32 rfl Try.underlying26 info25 rfl (by decide) (by omega) v145 y144 y147 _ _ _ (fun k_ => some k_ ≠ (.slice Ao22 t112.length co22 : Value).ownBlock ∧ some k_ ≠ (.slice Ao17 y115.length co17 : Value).ownBlock ∧ some k_ ≠ (.slice (some ad121) t118.length co19 : Value).ownBlock ∧ some k_ ≠ (.slice Ao39 t125.length co39 : Value).ownBlock ∧ some k_ ≠ (.slice Ao43 t134.length co43 : Value).ownBlock ∧ some k_ ≠ (v139 : Value).ownBlock ∧ some k_ ≠ (.slice Ao52 y147.length co52 : Value).ownBlock ∧ k_ ≠ gb111) (fun _ => False) rfl rfl ?aO ?aR (fun _ _ h => h) (fun _ h => h.elim) ?aF ?aB ?aS ?aL ?_
      (case aR => repeat (first | exact (Kd.R_reads' HO149.out).2.2 | (with_reducible refine Kd.C_alloc ?_ _) | (with_reducible refine Kd.C_drewN ?_ _) | (with_reducible refine Kd.C_drew ?_)))
      (case aB => exact HB.out)
      (case aF => exact (fun k_ hk => ⟨Kd.fresh' (Kd.R_lt HO114.out) k_ hk, Kd.fresh' (Kd.R_lt HO117.out) k_ hk, Kd.fresh' (Kd.R_lt HO120.out) k_ hk, Kd.fresh' (Kd.R_lt HO127.out) k_ hk, Kd.fresh' (Kd.R_lt HO136.out) k_ hk, Kd.fresh' (Kd.R_lt HO140.out) k_ hk, Kd.fresh' (Kd.R_lt HO149.out) k_ hk, Kd.freshB (g := gb111) (o := .cells #[.string ((rd_T25 t118 0).f0), .string ((rd_T25 t118 0).f1)] 25 (0, 0)) BK111.out k_ hk⟩))
      (case aO => exact HO146.out)
      (case aS => exact (below_size HB.out))
      (case aL => have := LMc36.out; omega)
      intro v151 w51 ho hb hg hat
      rw [← Ny150.out] at ho
      have n0_ := as0 (blk_grown (g := gb111) (o := .cells #[.string ((rd_T25 t118 0).f0), .string ((rd_T25 t118 0).f1)] 25 (0, 0)) BK111.out hg (Kd.R_away HO146.out (fun _ hk => hk.2.2.2.2.2.2.2)))
      have n1_ := as0 (Kd.R_after (ok := (fun k_ => some k_ ≠ (.slice Ao17 y115.length co17 : Value).ownBlock ∧ some k_ ≠ (.slice (some ad121) t118.length co19 : Value).ownBlock ∧ some k_ ≠ (.slice Ao39 t125.length co39 : Value).ownBlock ∧ some k_ ≠ (.slice Ao43 t134.length co43 : Value).ownBlock ∧ some k_ ≠ (v139 : Value).ownBlock ∧ some k_ ≠ (.slice Ao52 y147.length co52 : Value).ownBlock ∧ k_ ≠ gb111)) (by (with_reducible repeat (first | apply Kd.R_alloc | apply Kd.R_drewN | apply Kd.R_drew)); exact Kd.R_mono HO114.out (fun _ hk => ⟨⟨hk.1, ⟨hk.2.1, ⟨hk.2.2.1, ⟨hk.2.2.2.1, ⟨hk.2.2.2.2.1, ⟨hk.2.2.2.2.2.2.1, hk.2.2.2.2.2.2.2⟩⟩⟩⟩⟩⟩, hk.2.2.2.2.2.1⟩)) hg hat)
      have n2_ := as0 (Kd.R_after (ok := (fun k_ => some k_ ≠ (.slice Ao22 t112.length co22 : Value).ownBlock ∧ some k_ ≠ (.slice (some ad121) t118.length co19 : Value).ownBlock ∧ some k_ ≠ (.slice Ao39 t125.length co39 : Value).ownBlock ∧ some k_ ≠ (.slice Ao43 t134.length co43 : Value).ownBlock ∧ some k_ ≠ (v139 : Value).ownBlock ∧ some k_ ≠ (.slice Ao52 y147.length co52 : Value).ownBlock ∧ k_ ≠ gb111)) (by (with_reducible repeat (first | apply Kd.R_alloc | apply Kd.R_drewN | apply Kd.R_drew)); exact Kd.R_mono HO117.out (fun _ hk => ⟨⟨hk.1, ⟨hk.2.1, ⟨hk.2.2.1, ⟨hk.2.2.2.1, ⟨hk.2.2.2.2.1, ⟨hk.2.2.2.2.2.2.1, hk.2.2.2.2.2.2.2⟩⟩⟩⟩⟩⟩, hk.2.2.2.2.2.1⟩)) hg hat)
      have n3_ := as0 (Kd.R_after (ok := (fun k_ => some k_ ≠ (.slice Ao22 t112.length co22 : Value).ownBlock ∧ some k_ ≠ (.slice Ao17 y115.length co17 : Value).ownBlock ∧ some k_ ≠ (.slice Ao39 t125.length co39 : Value).ownBlock ∧ some k_ ≠ (.slice Ao43 t134.length co43 : Value).ownBlock ∧ some k_ ≠ (v139 : Value).ownBlock ∧ some k_ ≠ (.slice Ao52 y147.length co52 : Value).ownBlock ∧ k_ ≠ gb111)) (by (with_reducible repeat (first | apply Kd.R_alloc | apply Kd.R_drewN | apply Kd.R_drew)); exact Kd.R_mono HO120.out (fun _ hk => ⟨⟨hk.1, ⟨hk.2.1, ⟨hk.2.2.1, ⟨hk.2.2.2.1, ⟨hk.2.2.2.2.1, ⟨hk.2.2.2.2.2.2.1, hk.2.2.2.2.2.2.2⟩⟩⟩⟩⟩⟩, hk.2.2.2.2.2.1⟩)) hg hat)
      have n4_ := as0 (Kd.R_over' HO124.out (Kd.R_typed HO146.out) (by decide) hg)
      have n5_ := as0 (Kd.R_after (ok := (fun k_ => some k_ ≠ (.slice Ao22 t112.length co22 : Value).ownBlock ∧ some k_ ≠ (.slice Ao17 y115.length co17 : Value).ownBlock ∧ some k_ ≠ (.slice (some ad121) t118.length co19 : Value).ownBlock ∧ some k_ ≠ (.slice Ao43 t134.length co43 : Value).ownBlock ∧ some k_ ≠ (v139 : Value).ownBlock ∧ some k_ ≠ (.slice Ao52 y147.length co52 : Value).ownBlock ∧ k_ ≠ gb111)) (by (with_reducible repeat (first | apply Kd.R_alloc | apply Kd.R_drewN | apply Kd.R_drew)); exact Kd.R_mono HO127.out (fun _ hk => ⟨⟨hk.1, ⟨hk.2.1, ⟨hk.2.2.1, ⟨hk.2.2.2.1, ⟨hk.2.2.2.2.1, ⟨hk.2.2.2.2.2.2.1, hk.2.2.2.2.2.2.2⟩⟩⟩⟩⟩⟩, hk.2.2.2.2.2.1⟩)) hg hat)
      have n6_ := as0 (Kd.R_over' HO130.out (Kd.R_typed HO146.out) (by decide) hg)
      have n7_ := as0 (Kd.R_over' HO133.out (Kd.R_typed HO146.out) (by decide) hg)
      have n8_ := as0 (Kd.R_after (ok := (fun k_ => some k_ ≠ (.slice Ao22 t112.length co22 : Value).ownBlock ∧ some k_ ≠ (.slice Ao17 y115.length co17 : Value).ownBlock ∧ some k_ ≠ (.slice (some ad121) t118.length co19 : Value).ownBlock ∧ some k_ ≠ (.slice Ao39 t125.length co39 : Value).ownBlock ∧ some k_ ≠ (v139 : Value).ownBlock ∧ some k_ ≠ (.slice Ao52 y147.length co52 : Value).ownBlock ∧ k_ ≠ gb111)) (by (with_reducible repeat (first | apply Kd.R_alloc | apply Kd.R_drewN | apply Kd.R_drew)); exact Kd.R_mono HO136.out (fun _ hk => ⟨⟨hk.1, ⟨hk.2.1, ⟨hk.2.2.1, ⟨hk.2.2.2.1, ⟨hk.2.2.2.2.1, ⟨hk.2.2.2.2.2.2.1, hk.2.2.2.2.2.2.2⟩⟩⟩⟩⟩⟩, hk.2.2.2.2.2.1⟩)) hg hat)
      have n9_ := as0 (Kd.R_after (ok := (fun k_ => some k_ ≠ (.slice Ao22 t112.length co22 : Value).ownBlock ∧ some k_ ≠ (.slice Ao17 y115.length co17 : Value).ownBlock ∧ some k_ ≠ (.slice (some ad121) t118.length co19 : Value).ownBlock ∧ some k_ ≠ (.slice Ao39 t125.length co39 : Value).ownBlock ∧ some k_ ≠ (.slice Ao43 t134.length co43 : Value).ownBlock ∧ some k_ ≠ (.slice Ao52 y147.length co52 : Value).ownBlock ∧ k_ ≠ gb111)) (by (with_reducible repeat (first | apply Kd.R_alloc | apply Kd.R_drewN | apply Kd.R_drew)); exact Kd.R_mono HO140.out (fun _ hk => ⟨⟨hk.1, ⟨hk.2.1, ⟨hk.2.2.1, ⟨hk.2.2.2.1, ⟨hk.2.2.2.2.1, ⟨hk.2.2.2.2.2.2.1, hk.2.2.2.2.2.2.2⟩⟩⟩⟩⟩⟩, hk.2.2.2.2.2.1⟩)) hg hat)
      have n10_ := as0 (Kd.R_after (ok := (fun k_ => some k_ ≠ (.slice Ao22 t112.length co22 : Value).ownBlock ∧ some k_ ≠ (.slice Ao17 y115.length co17 : Value).ownBlock ∧ some k_ ≠ (.slice (some ad121) t118.length co19 : Value).ownBlock ∧ some k_ ≠ (.slice Ao39 t125.length co39 : Value).ownBlock ∧ some k_ ≠ (.slice Ao43 t134.length co43 : Value).ownBlock ∧ some k_ ≠ (v139 : Value).ownBlock ∧ k_ ≠ gb111)) (by (with_reducible repeat (first | apply Kd.R_alloc | apply Kd.R_drewN | apply Kd.R_drew)); exact Kd.R_mono HO149.out (fun _ hk => ⟨⟨hk.1, ⟨hk.2.1, ⟨hk.2.2.1, ⟨hk.2.2.2.1, ⟨hk.2.2.2.2.1, ⟨hk.2.2.2.2.2.1, hk.2.2.2.2.2.2.2⟩⟩⟩⟩⟩⟩, hk.2.2.2.2.2.2.1⟩)) hg hat)
      have n11_ := as0 (hb)
      have n12_ := as0 (ho)
      clear BK111
      clear HO114
      clear HO117
      clear HO120
      clear HO124
      clear HO127
      clear HO130
      clear HO133
      clear HO136
      clear HO140
      clear HO149
      clear HB
      clear HO146
      have BK111 := n0_
      have HO114 := n1_
      have HO117 := n2_
      have HO120 := n3_
      have HO124 := n4_
      have HO127 := n5_
      have HO130 := n6_
      have HO133 := n7_
      have HO136 := n8_
      have HO140 := n9_
      have HO149 := n10_
      have HB := n11_
      have HO152 := n12_
      clear n0_ n1_ n2_ n3_ n4_ n5_ n6_ n7_ n8_ n9_ n10_ n11_ n12_
      clear ho hb hg hat
      obtain ⟨Ao53, co53, eo53⟩ := Kd.R_slice HO140.out
      (first | subst eo53 | (injection eo53 with f1_ f2_ f3_; have f4_ := f1_.symm; have f5_ := f3_.symm; clear f1_ f2_ f3_; subst f4_; subst f5_))
      obtain ⟨Ao54, co54, eo54⟩ := Kd.R_slice HO152.out
      (first | subst eo54 | (injection eo54 with f1_ f2_ f3_; have f4_ := f1_.symm; have f5_ := f3_.symm; clear f1_ f2_ f3_; subst f4_; subst f5_))
      refine hK.out _ _ ⟨(blk_cell BK111.out 0).trans rfl, (blk_cell BK111.out 1).trans rfl⟩ (fun hHeld => ?_)
      clear hK K
      refine norm_ (a' := ?_) ?_ ?_
      rotate_left
      ·show Act.put _ (some 48) _ = _
       simp only [Act.put, List.setIfInBounds_toArray, List.set_cons_zero, List.set_cons_succ, i64_w, i32_w]
       rfl
      refine one_ (i := 14) (N := some 49) #[true, true, true, true, true, true, true, true, true, true, true, true, true, true, true, false, false] rfl rfl (one_of HT_.out (by kernel_rfl)) (by decide) (fun K hK => ?_)
      refine goes_ Try.func24 (by kernel_rfl) rfl #[.slice Ao53 t138.length co53, .slice Ao54 y150.length co54] (by rfl) rfl rfl (by (try simp only [List.map_toArray, List.map_cons, List.map_nil]); first | done | rfl | (simp only [List.length_drop, List.length_take]; rfl)) ?_
      with_reducible refine (PA.bulletinref09_Same.calls k _ _ t138 _ _ y150 t153 _ ?side1 ?side2 ?side3 ?side4 A37.out).mono ?_
      (case side1 => repeat (first | exact (Kd.R_reads' HO140.out).2.2 | (with_reducible refine Kd.C_alloc ?_ _) | (with_reducible refine Kd.C_drewN ?_ _) | (with_reducible refine Kd.C_drew ?_)))
      (case side2 => exact (Kd.R_reads' HO140.out).2.1)
      (case side3 => repeat (first | exact (Kd.R_reads' HO152.out).2.2 | (with_reducible refine Kd.C_alloc ?_ _) | (with_reducible refine Kd.C_drewN ?_ _) | (with_reducible refine Kd.C_drew ?_)))
      (case side4 => exact (Kd.R_reads' HO152.out).2.1)
      rintro e w' ⟨rfl, ⟨nd, rfl⟩⟩
      refine ⟨_, rfl, ?_⟩
      refine hK.out _ _ ⟨(blk_cell BK111.out 0).trans rfl, (blk_cell BK111.out 1).trans rfl⟩ (fun hHeld => ?_)
      clear hK K
      refine norm_ (a' := ?_) ?_ ?_
      rotate_left
      ·show Act.put _ (some 49) _ = _
       simp only [Act.put, List.setIfInBounds_toArray, List.set_cons_zero, List.set_cons_succ, i64_w, i32_w]
       rfl
      refine pure_ (i := 15) (N := some 50) (v := ?_) (a' := ?_) #[true, true, true, true, true, true, true, true, true, true, true, true, true, true, true, true, false] rfl rfl (any_of HT_.out (by kernel_rfl)) (fun _ _ _ h => h) (Or.inl ⟨by rfl, ?_⟩) ?_ ?_
      rotate_left
      ·intro w'
       go_simp
       with_reducible rfl
      rotate_left
      ·simp only [Act.put, List.setIfInBounds_toArray, List.set_cons_zero, List.set_cons_succ, i64_w, i32_w]
       rfl
      refine pure_ (i := 16) (N := some 51) (v := ?_) (a' := ?_) #[true, true, true, true, true, true, true, true, true, true, true, true, true, true, true, true, true] rfl rfl (any_of HT_.out (by kernel_rfl)) (fun _ _ _ h => h) (Or.inl ⟨by rfl, ?_⟩) ?_ ?_
      rotate_left
      ·intro w'
       go_simp
       with_reducible rfl
      rotate_left
      ·simp only [Act.put, List.setIfInBounds_toArray, List.set_cons_zero, List.set_cons_succ, i64_w, i32_w]
       rfl
      refine done_ (done_of HT_.out (by kernel_rfl)) ?_
      try go_wp2
      go_meet
      case rel => exact ⟨_, (!t153), (by first | rfl | (simp; done) | (simp [*]; done)), H', ⟨by first | omega | exact Nat.le_refl _⟩, ⟨by (with_reducible repeat (first | apply Kd.R_alloc | apply Kd.R_drewN | apply Kd.R_drew)); exact Kd.R_mono HO114.out (fun _ hk => hk.1.2.2.2.2.2.2)⟩, ⟨by (with_reducible repeat (first | apply Kd.R_alloc | apply Kd.R_drewN | apply Kd.R_drew)); exact HO124.out⟩, ⟨by (with_reducible repeat (first | apply Kd.R_alloc | apply Kd.R_drewN | apply Kd.R_drew)); exact HO130.out⟩, ⟨by (with_reducible repeat (first | apply Kd.R_alloc | apply Kd.R_drewN | apply Kd.R_drew)); exact HO133.out⟩, ⟨by (with_reducible repeat (first | refine blk_drewN ?_ _ | refine blk_drew ?_ | refine blk_alloc ?_ _)); exact BK111.out⟩, ⟨by repeat (first | (with_reducible first | exact HB.out | apply below_alloc | apply pw_below_drewN | apply below_drew1 | refine below_set ?_ GE111.out) | exact HB.out)⟩⟩
     ·rw [if_neg c36] at H
      exact absurd H (by simp)
    ·rw [if_neg c35] at H
     exact absurd H (by simp)
   ·replace c33 := Bool.eq_false_iff.mpr c33
    subst c33
    have H1 : (bulletinlaw09_FieldWith.j0 k t112 t122 t128 t131 true) = some r := by rw [if_neg (show ¬ (false = true) by decide)] at H; exact H
    clear H
    have H := H1
    clear H1
    have H' := as0 H
    clear H
    try go_wp2
    have n0_ := as0 (Kd.R_drew HO114.out)
    have n1_ := as0 (Kd.R_drew HO117.out)
    have n2_ := as0 (Kd.R_drew HO120.out)
    have n3_ := as0 (Kd.R_drew HO124.out)
    have n4_ := as0 (Kd.R_drew HO127.out)
    have n5_ := as0 (Kd.R_drew HO130.out)
    have n6_ := as0 (Kd.R_drew HO133.out)
    have n7_ := as0 (blk_drew BK111.out)
    have n8_ := as0 (below_drew1 HB.out)
    clear HO114
    clear HO117
    clear HO120
    clear HO124
    clear HO127
    clear HO130
    clear HO133
    clear BK111
    clear HB
    have HO114 := n0_
    have HO117 := n1_
    have HO120 := n2_
    have HO124 := n3_
    have HO127 := n4_
    have HO130 := n5_
    have HO133 := n6_
    have BK111 := n7_
    have HB := n8_
    clear n0_ n1_ n2_ n3_ n4_ n5_ n6_ n7_ n8_
    obtain ⟨Ao56, co56, eo56⟩ := Kd.R_slice HO130.out
    (first | subst eo56 | (injection eo56 with f1_ f2_ f3_; have f4_ := f1_.symm; have f5_ := f3_.symm; clear f1_ f2_ f3_; subst f4_; subst f5_))
    refine start_ (n := 17) (S := fun w' => True) (ds := []) #[false, false, false, false, false, false, false, false, false, false, false, false, false, false, false, false, false] (by kernel_rfl) rfl rfl trivial (fun hHeld => ?_); refine with_tabW bulletinlaw09_FieldWith.tab6 bulletinlaw09_FieldWith.bits6 (fun HT_ HW_ => ?_)
    generalize w30.drew = w55 at HO114 HO117 HO120 HO124 HO127 HO130 HO133 BK111 HB hHeld ⊢
    refine pure_ (i := 0) (N := some 35) (v := ?_) (a' := ?_) #[true, false, false, false, false, false, false, false, false, false, false, false, false, false, false, false, false] rfl rfl (any_of HT_.out (by kernel_rfl)) (fun _ _ _ h => h) (Or.inl ⟨by rfl, ?_⟩) ?_ ?_
    rotate_left
    ·intro w'
     go_simp
     with_reducible rfl
    rotate_left
    ·simp only [Act.put, List.setIfInBounds_toArray, List.set_cons_zero, List.set_cons_succ, i64_w, i32_w]
     rfl
    refine pure_ (i := 2) (N := some 37) (v := ?_) (a' := ?_) #[true, false, true, false, false, false, false, false, false, false, false, false, false, false, false, false, false] rfl rfl (any_of HT_.out (by kernel_rfl)) (fun _ _ _ h => h) (Or.inl ⟨by rfl, ?_⟩) ?_ ?_
    rotate_left
    ·intro w'
     go_simp
     with_reducible rfl
    rotate_left
    ·simp only [Act.put, List.setIfInBounds_toArray, List.set_cons_zero, List.set_cons_succ, i64_w, i32_w]
     rfl
    refine one_ (i := 1) (N := some 36) #[true, true, true, false, false, false, false, false, false, false, false, false, false, false, false, false, false] rfl rfl (one_of HT_.out (by kernel_rfl)) (by decide) (fun K hK => ?_)
    refine goes_ Try.func25 (by kernel_rfl) rfl #[.slice Ao56 t128.length co56] (by rfl) rfl rfl (by (try simp only [List.map_toArray, List.map_cons, List.map_nil]); first | done | rfl | (simp only [List.length_drop, List.length_take]; rfl)) ?_
    with_reducible refine (PA.bulletinlaw09_Of.calls k _ _ t128 t134 _ ?side1 ?side2 A31.out).mono ?_
    (case side1 => repeat (first | exact (Kd.R_reads' HO130.out).2.2 | (with_reducible refine Kd.C_alloc ?_ _) | (with_reducible refine Kd.C_drewN ?_ _) | (with_reducible refine Kd.C_drew ?_)))
    (case side2 => exact (Kd.R_reads' HO130.out).2.1)
    rintro e w57 ⟨v135, rfl, ho0, hb⟩
    refine ⟨_, rfl, ?_⟩
    have n0_ := as0 (Kd.R_elder' HO114.out (Kd.R_base ho0) hb)
    have n1_ := as0 (Kd.R_elder' HO117.out (Kd.R_base ho0) hb)
    have n2_ := as0 (Kd.R_elder' HO120.out (Kd.R_base ho0) hb)
    have n3_ := as0 (Kd.R_below HO124.out hb)
    have n4_ := as0 (Kd.R_elder' HO127.out (Kd.R_base ho0) hb)
    have n5_ := as0 (Kd.R_below HO130.out hb)
    have n6_ := as0 (Kd.R_below HO133.out hb)
    have n7_ := as0 (Kd.R_lower (Kd.R_newB (Kd.R_new' (Kd.R_new' (Kd.R_new' (Kd.R_new' ho0 (Kd.R_lt HO114.out)) (Kd.R_lt HO117.out)) (Kd.R_lt HO120.out)) (Kd.R_lt HO127.out)) (g := gb111) (o := .cells #[.string ((rd_T25 t118 0).f0), .string ((rd_T25 t118 0).f1)] 25 (0, 0)) BK111.out) (below_size HB.out))
    have n8_ := as0 (blk_below (g := gb111) (o := .cells #[.string ((rd_T25 t118 0).f0), .string ((rd_T25 t118 0).f1)] 25 (0, 0)) BK111.out hb)
    have n9_ := as0 (below_step HB.out hb)
    clear HO114
    clear HO117
    clear HO120
    clear HO124
    clear HO127
    clear HO130
    clear HO133
    clear BK111
    clear HB
    have HO114 := n0_
    have HO117 := n1_
    have HO120 := n2_
    have HO124 := n3_
    have HO127 := n4_
    have HO130 := n5_
    have HO133 := n6_
    have HO136 := n7_
    have BK111 := n8_
    have HB := n9_
    clear n0_ n1_ n2_ n3_ n4_ n5_ n6_ n7_ n8_ n9_
    obtain ⟨Ao58, co58, eo58⟩ := Kd.R_slice HO136.out
    (first | subst eo58 | (injection eo58 with f1_ f2_ f3_; have f4_ := f1_.symm; have f5_ := f3_.symm; clear f1_ f2_ f3_; subst f4_; subst f5_))
    obtain ⟨Ao59, co59, eo59⟩ := Kd.R_slice HO127.out
    (first | subst eo59 | (injection eo59 with f1_ f2_ f3_; have f4_ := f1_.symm; have f5_ := f3_.symm; clear f1_ f2_ f3_; subst f4_; subst f5_))
    refine hK.out _ _ trivial (fun hHeld => ?_)
    clear hK K
    refine norm_ (a' := ?_) ?_ ?_
    rotate_left
    ·show Act.put _ (some 36) _ = _
     simp only [Act.put, List.setIfInBounds_toArray, List.set_cons_zero, List.set_cons_succ, i64_w, i32_w]
     rfl
    refine one_ (i := 3) (N := some 38) #[true, true, true, true, false, false, false, false, false, false, false, false, false, false, false, false, false] rfl rfl (one_of HT_.out (by kernel_rfl)) (by decide) (fun K hK => ?_)
    refine goes_ Try.func24 (by kernel_rfl) rfl #[.slice Ao58 t134.length co58, .slice Ao59 t125.length co59] (by rfl) rfl rfl (by (try simp only [List.map_toArray, List.map_cons, List.map_nil]); first | done | rfl | (simp only [List.length_drop, List.length_take]; rfl)) ?_
    with_reducible refine (PA.bulletinref09_Same.calls k _ _ t134 _ _ t125 false _ ?side1 ?side2 ?side3 ?side4 A32.out).mono ?_
    (case side1 => repeat (first | exact (Kd.R_reads' HO136.out).2.2 | (with_reducible refine Kd.C_alloc ?_ _) | (with_reducible refine Kd.C_drewN ?_ _) | (with_reducible refine Kd.C_drew ?_)))
    (case side2 => exact (Kd.R_reads' HO136.out).2.1)
    (case side3 => repeat (first | exact (Kd.R_reads' HO127.out).2.2 | (with_reducible refine Kd.C_alloc ?_ _) | (with_reducible refine Kd.C_drewN ?_ _) | (with_reducible refine Kd.C_drew ?_)))
    (case side4 => exact (Kd.R_reads' HO127.out).2.1)
    rintro e w' ⟨rfl, ⟨nd, rfl⟩⟩
    refine ⟨_, rfl, ?_⟩
    refine hK.out _ _ trivial (fun hHeld => ?_)
    clear hK K
    refine norm_ (a' := ?_) ?_ ?_
    rotate_left
    ·show Act.put _ (some 38) _ = _
     simp only [Act.put, List.setIfInBounds_toArray, List.set_cons_zero, List.set_cons_succ, i64_w, i32_w]
     rfl
    refine pure_ (i := 4) (N := some 39) (v := ?_) (a' := ?_) #[true, true, true, true, true, false, false, false, false, false, false, false, false, false, false, false, false] rfl rfl (any_of HT_.out (by kernel_rfl)) (fun _ _ _ h => h) (Or.inl ⟨by rfl, ?_⟩) ?_ ?_
    rotate_left
    ·intro w'
     go_simp
     with_reducible rfl
    rotate_left
    ·simp only [Act.put, List.setIfInBounds_toArray, List.set_cons_zero, List.set_cons_succ, i64_w, i32_w]
     rfl
    refine pure_ (i := 5) (N := some 40) (v := ?_) (a' := ?_) #[true, true, true, true, true, true, false, false, false, false, false, false, false, false, false, false, false] rfl rfl (any_of HT_.out (by kernel_rfl)) (fun _ _ _ h => h) (Or.inl ⟨by rfl, ?_⟩) ?_ ?_
    rotate_left
    ·intro w'
     go_simp
     with_reducible rfl
    rotate_left
    ·simp only [Act.put, List.setIfInBounds_toArray, List.set_cons_zero, List.set_cons_succ, i64_w, i32_w]
     rfl
    refine pure_ (i := 6) (N := some 41) (v := undef) (a' := ?_) #[true, true, true, true, true, true, true, false, false, false, false, false, false, false, false, false, false] rfl rfl (any_of HT_.out (by kernel_rfl)) (fun _ _ _ h => h) (Or.inr ⟨by rfl, rfl⟩) ?_ ?_
    rotate_left
    ·simp only [Act.put, List.setIfInBounds_toArray, List.set_cons_zero, List.set_cons_succ, i64_w, i32_w]
     rfl
    refine pure_ (i := 7) (N := some 42) (v := undef) (a' := ?_) #[true, true, true, true, true, true, true, true, false, false, false, false, false, false, false, false, false] rfl rfl (any_of HT_.out (by kernel_rfl)) (fun _ _ _ h => h) (Or.inr ⟨by rfl, rfl⟩) ?_ ?_
    rotate_left
    ·simp only [Act.put, List.setIfInBounds_toArray, List.set_cons_zero, List.set_cons_succ, i64_w, i32_w]
     rfl
    refine pure_ (i := 8) (N := some 43) (v := undef) (a' := ?_) #[true, true, true, true, true, true, true, true, true, false, false, false, false, false, false, false, false] rfl rfl (any_of HT_.out (by kernel_rfl)) (fun _ _ _ h => h) (Or.inr ⟨by rfl, rfl⟩) ?_ ?_
    rotate_left
    ·simp only [Act.put, List.setIfInBounds_toArray, List.set_cons_zero, List.set_cons_succ, i64_w, i32_w]
     rfl
    refine pure_ (i := 9) (N := some 44) (v := undef) (a' := ?_) #[true, true, true, true, true, true, true, true, true, true, false, false, false, false, false, false, false] rfl rfl (any_of HT_.out (by kernel_rfl)) (fun _ _ _ h => h) (Or.inr ⟨by rfl, rfl⟩) ?_ ?_
    rotate_left
    ·simp only [Act.put, List.setIfInBounds_toArray, List.set_cons_zero, List.set_cons_succ, i64_w, i32_w]
     rfl
    refine pure_ (i := 10) (N := some 45) (v := undef) (a' := ?_) #[true, true, true, true, true, true, true, true, true, true, true, false, false, false, false, false, false] rfl rfl (any_of HT_.out (by kernel_rfl)) (fun _ _ _ h => h) (Or.inr ⟨by rfl, rfl⟩) ?_ ?_
    rotate_left
    ·simp only [Act.put, List.setIfInBounds_toArray, List.set_cons_zero, List.set_cons_succ, i64_w, i32_w]
     rfl
    refine pure_ (i := 11) (N := some 46) (v := undef) (a' := ?_) #[true, true, true, true, true, true, true, true, true, true, true, true, false, false, false, false, false] rfl rfl (any_of HT_.out (by kernel_rfl)) (fun _ _ _ h => h) (Or.inr ⟨by rfl, rfl⟩) ?_ ?_
    rotate_left
    ·simp only [Act.put, List.setIfInBounds_toArray, List.set_cons_zero, List.set_cons_succ, i64_w, i32_w]
     rfl
    refine pure_ (i := 12) (N := some 47) (v := undef) (a' := ?_) #[true, true, true, true, true, true, true, true, true, true, true, true, true, false, false, false, false] rfl rfl (any_of HT_.out (by kernel_rfl)) (fun _ _ _ h => h) (Or.inr ⟨by rfl, rfl⟩) ?_ ?_
    rotate_left
    ·simp only [Act.put, List.setIfInBounds_toArray, List.set_cons_zero, List.set_cons_succ, i64_w, i32_w]
     rfl
    refine pure_ (i := 13) (N := some 48) (v := undef) (a' := ?_) #[true, true, true, true, true, true, true, true, true, true, true, true, true, true, false, false, false] rfl rfl (any_of HT_.out (by kernel_rfl)) (fun _ _ _ h => h) (Or.inr ⟨by rfl, rfl⟩) ?_ ?_
    rotate_left
    ·simp only [Act.put, List.setIfInBounds_toArray, List.set_cons_zero, List.set_cons_succ, i64_w, i32_w]
     rfl
    refine pure_ (i := 14) (N := some 49) (v := undef) (a' := ?_) #[true, true, true, true, true, true, true, true, true, true, true, true, true, true, true, false, false] rfl rfl (any_of HT_.out (by kernel_rfl)) (fun _ _ _ h => h) (Or.inr ⟨by rfl, rfl⟩) ?_ ?_
    rotate_left
    ·simp only [Act.put, List.setIfInBounds_toArray, List.set_cons_zero, List.set_cons_succ, i64_w, i32_w]
     rfl
    refine pure_ (i := 15) (N := some 50) (v := undef) (a' := ?_) #[true, true, true, true, true, true, true, true, true, true, true, true, true, true, true, true, false] rfl rfl (any_of HT_.out (by kernel_rfl)) (fun _ _ _ h => h) (Or.inr ⟨by rfl, rfl⟩) ?_ ?_
    rotate_left
    ·simp only [Act.put, List.setIfInBounds_toArray, List.set_cons_zero, List.set_cons_succ, i64_w, i32_w]
     rfl
    refine pure_ (i := 16) (N := some 51) (v := ?_) (a' := ?_) #[true, true, true, true, true, true, true, true, true, true, true, true, true, true, true, true, true] rfl rfl (any_of HT_.out (by kernel_rfl)) (fun _ _ _ h => h) (Or.inl ⟨by rfl, ?_⟩) ?_ ?_
    rotate_left
    ·intro w'
     go_simp
     with_reducible rfl
    rotate_left
    ·simp only [Act.put, List.setIfInBounds_toArray, List.set_cons_zero, List.set_cons_succ, i64_w, i32_w]
     rfl
    refine done_ (done_of HT_.out (by kernel_rfl)) ?_
    try go_wp2
    go_meet
    case rel => exact ⟨_, (true), (by first | rfl | (simp; done) | (simp [*]; done)), H', ⟨by first | omega | exact Nat.le_refl _⟩, ⟨by (with_reducible repeat (first | apply Kd.R_alloc | apply Kd.R_drewN | apply Kd.R_drew)); exact Kd.R_mono HO114.out (fun _ hk => hk.1.1.1.2)⟩, ⟨by (with_reducible repeat (first | apply Kd.R_alloc | apply Kd.R_drewN | apply Kd.R_drew)); exact Kd.R_mono HO124.out (fun _ hk => ⟨hk.1.2, hk.2⟩)⟩, ⟨by (with_reducible repeat (first | apply Kd.R_alloc | apply Kd.R_drewN | apply Kd.R_drew)); exact Kd.R_mono HO130.out (fun _ hk => ⟨hk.1.2, hk.2⟩)⟩, ⟨by (with_reducible repeat (first | apply Kd.R_alloc | apply Kd.R_drewN | apply Kd.R_drew)); exact Kd.R_mono HO133.out (fun _ hk => ⟨hk.1.2, hk.2⟩)⟩, ⟨by (with_reducible repeat (first | refine blk_drewN ?_ _ | refine blk_drew ?_ | refine blk_alloc ?_ _)); exact BK111.out⟩, ⟨by repeat (first | (with_reducible first | exact HB.out | apply below_alloc | apply pw_below_drewN | apply below_drew1 | refine below_set ?_ GE111.out) | exact HB.out)⟩⟩
  case rest =>
   clear HC10
   try clear c2
   try clear p2
   try clear c3
   try clear c24
   try clear c25
   try clear c33
   try clear c35
   try clear c36
   obtain ⟨kq, x51_9, rfl, HA, HJ9, HO_0, HO_5, HO_7, HO_8, BK111, HB⟩ := hcut
   cases kq with
   | zero => exact absurd HA.out (by simp [bulletinlaw09_FieldWith.j0])
   | succ kj9 =>
    have H := HA.out
    clear HA
    simp only [bulletinlaw09_FieldWith.j0] at H
    by_cases c60 : x51_9 = true
    ·subst c60
     have H1 : (some false) = some r := by rw [if_pos rfl] at H; exact H
     clear H
     have H := H1
     clear H1
     obtain rfl := Option.some.inj H
     go_wp2
     go_ret
     exact ⟨by first | rfl | (simp [errW_none, errW_some] <;> rfl) | (simp [*, errW_none, errW_some] <;> rfl), by repeat (first | (with_reducible first | exact HB.out | apply below_alloc | apply pw_below_drewN | apply below_drew1 | refine below_set ?_ GE111.out) | exact HB.out)⟩
    ·replace c60 := Bool.eq_false_iff.mpr c60
     subst c60
     have H1 : (bulletinlaw09_FieldWith.l0 kj9 t112 t122 t128 t131 0) = some r := by rw [if_neg (show ¬ (false = true) by decide)] at H; exact H
     clear H
     have H := H1
     clear H1
     have H' := as0 H
     clear H
     go_wp2
     go_loopg [9] kj9 (fun kq v9 w' => ∃ (x7_2 : List (S28)) (x9_2 : Int), v9 = .int .i64 x9_2 ∧ Aside0 (bulletinlaw09_FieldWith.l0 kq t112 t122 x7_2 t131 x9_2 = some r) ∧ Aside0 (kq ≤ kj9) ∧ Aside0 (Kd.R k25 25 w' w.heap.size (fun k_ => k_ ≠ gb111) (.slice Ao22 t112.length co22) t112) ∧ Aside0 (Kd.R k28 28 w' w.heap.size (fun k_ => some k_ ≠ (v129 : Value).ownBlock ∧ some k_ ≠ (v132 : Value).ownBlock) (.slice Ao27 t122.length co27) t122) ∧ Aside0 (Kd.R k28 28 w' w.heap.size (fun k_ => some k_ ≠ ((.slice Ao27 t122.length co27) : Value).ownBlock ∧ some k_ ≠ (v132 : Value).ownBlock) v129 x7_2) ∧ Aside0 (Kd.R k28 28 w' w.heap.size (fun k_ => some k_ ≠ ((.slice Ao27 t122.length co27) : Value).ownBlock ∧ some k_ ≠ (v129 : Value).ownBlock) v132 t131) ∧ Aside0 (w'.heap[gb111]? = some (.cells #[.string ((rd_T25 t118 0).f0), .string ((rd_T25 t118 0).f1)] 25 (0, 0))) ∧ Aside0 (Below w.heap.size w w'))
     case atStart => exact ⟨(t128), (0), (by first | rfl | (simp; done) | (simp [*]; done)), H', ⟨Nat.le_refl _⟩, ⟨by (with_reducible repeat (first | apply Kd.R_alloc | apply Kd.R_drewN | apply Kd.R_drew)); exact HO_0.out⟩, ⟨by (with_reducible repeat (first | apply Kd.R_alloc | apply Kd.R_drewN | apply Kd.R_drew)); exact HO_5.out⟩, ⟨by (with_reducible repeat (first | apply Kd.R_alloc | apply Kd.R_drewN | apply Kd.R_drew)); exact HO_7.out⟩, ⟨by (with_reducible repeat (first | apply Kd.R_alloc | apply Kd.R_drewN | apply Kd.R_drew)); exact HO_8.out⟩, ⟨by (with_reducible repeat (first | refine blk_drewN ?_ _ | refine blk_drew ?_ | refine blk_alloc ?_ _)); exact BK111.out⟩, ⟨by repeat (first | (with_reducible first | exact HB.out | apply below_alloc | apply pw_below_drewN | apply below_drew1 | refine below_set ?_ GE111.out) | exact HB.out)⟩⟩
     case round =>
      clear H'
      try clear c2
      try clear p2
      try clear c3
      try clear c6
      try clear c24
      try clear c25
      try clear c33
      try clear c35
      try clear c36
      try clear c60
      try clear p2
      obtain ⟨x7_2, x9_2, rfl, HA, HK2, HO_0, HO_5, HO_7, HO_8, BK111, HB⟩ := hrel
      cases gk with
      | zero => exact absurd HA.out (by simp [bulletinlaw09_FieldWith.l0])
      | succ k2 =>
       have H := HA.out
       clear HA
       simp only [bulletinlaw09_FieldWith.l0] at H
       by_cases c61 : x9_2 < (x7_2.length : Int)
       ·rw [if_pos c61] at H
        have c61b0 : decide (x9_2 < (x7_2.length : Int)) = true := decide_eq_true c61
        clear c61
        by_cases c62 : 0 ≤ x9_2
        ·rw [if_pos c62] at H
         have c62b0 : decide (0 ≤ x9_2) = true := decide_eq_true c62
         clear c62
         obtain ⟨y154, hy154⟩ : ∃ y_ : List (S28), y_ = (x7_2.set (x9_2 : Int).toNat (⟨(rd_T28 x7_2 x9_2).f0, (⟨#[99, 104, 97, 110, 103, 101, 100]⟩ : ByteArray)⟩ : S28)) := ⟨_, rfl⟩
         replace H : (bulletinlaw09_FieldWith.l0 k2 t112 t122 y154 t131 (wrap64 (x9_2 + 1))) = some r := by first | (rw [hy154]; with_reducible exact H) | (have H2_ := (Option.bind_some _ _).symm.trans H; rw [hy154]; with_reducible exact H2_) | (have H2_ := (Option.bind_some _ _).symm.trans H; with_reducible exact H2_) | with_reducible exact H | (rw [hy154]; exact H) | exact H
         have Ny154 := as0 hy154
         clear hy154
         have H' := as0 H
         clear H
         obtain ⟨Ao64, co64, eo64⟩ := Kd.R_slice HO_7.out
         subst eo64
         have p63 : 0 ≤ (x9_2 : Int) := of_decide_eq_true (by first | (with_reducible assumption) | assumption)
         have q63 : (x9_2 : Int) < ((x7_2.length : Int) : Int) := of_decide_eq_true (by first | (with_reducible assumption) | assumption)
         obtain ⟨go63, co63, eo63, gb63, gl63, cl63, HG63⟩ := Kd.R_form HO_7.out (by omega)
         (first | cases eo63 | (injection eo63 with ea_ en_ ec_; (first | subst ea_ | (injection ea_ with ea_; subst ea_)); subst ec_; clear en_))
         have GB63 := as0 gb63
         have GG63 := as0 HG63
         clear gb63 gl63 HG63
         obtain ⟨ce63, hcl63, hM63, hcc63, hfr63⟩ := Kd.R_elem HO_7.out z28 (x9_2 : Int) p63 q63
         obtain rfl := k28_openM hM63
         have hx63_0 : wr.cell? ⟨go63, (x9_2 : Int).toNat * 2, none⟩ = some (.string ((rd_T28 x7_2 x9_2).f0)) := hcc63 0 _ rfl
         have hx63_1 : wr.cell? ⟨go63, (x9_2 : Int).toNat * 2 + 1, none⟩ = some (.string ((rd_T28 x7_2 x9_2).f1)) := hcc63 1 _ rfl
         have hf63_0 : wr.frozen? ⟨go63, (x9_2 : Int).toNat * 2, none⟩ = false := hfr63 0
         have hf63_1 : wr.frozen? ⟨go63, (x9_2 : Int).toNat * 2 + 1, none⟩ = false := hfr63 1
         clear hcl63 hcc63 hfr63 hM63
         replace p63 := eq_true p63
         replace q63 := eq_true q63
         have HX65 := as0 (show Kd.R k28 28 wr w.heap.size (fun k_ => some k_ ≠ (.slice Ao27 t122.length co27 : Value).ownBlock ∧ some k_ ≠ (v132 : Value).ownBlock) (.slice (some ⟨go63, 0, none⟩) x7_2.length co64) x7_2 from HO_7.out)
         obtain ⟨ce65, hcl65, hM65, hcc65, hfr65⟩ := Kd.R_elem HX65.out z28 (x9_2 : Int) (of_decide_eq_true (by first | (with_reducible assumption) | assumption)) (by have h_ : (x9_2 : Int) < ((x7_2.length : Int) : Int) := of_decide_eq_true (by first | (with_reducible assumption) | assumption); first | exact h_ | (have e_ := (Kd.R_reads' HO_7.out).1; omega) | simpa using h_)
         obtain rfl := k28_openM hM65
         have HP65 := Kd.R_seg HX65.out (x9_2 : Int) (of_decide_eq_true (by first | (with_reducible assumption) | assumption)) (by have h_ : (x9_2 : Int) < ((x7_2.length : Int) : Int) := of_decide_eq_true (by first | (with_reducible assumption) | assumption); first | exact h_ | (have e_ := (Kd.R_reads' HO_7.out).1; omega) | simpa using h_) (seg := [.string (⟨#[99, 104, 97, 110, 103, 101, 100]⟩ : ByteArray)]) (j := 1) hcl65 hcc65 (show 2 ≤ 2 from by decide) (x' := (⟨(rd_T28 x7_2 x9_2).f0, (⟨#[99, 104, 97, 110, 103, 101, 100]⟩ : ByteArray)⟩ : S28)) (k28_mkM _ _ _ (⟨(rd_T28 x7_2 x9_2).f0, (⟨#[99, 104, 97, 110, 103, 101, 100]⟩ : ByteArray)⟩ : S28) ) (fun _ hk => hk)
         have hx65_1 := hcc65 1 _ rfl
         (try simp only [show (k28).sz = 2 from rfl, Nat.mul_one, Nat.add_zero] at hx65_1)
         have hf65_1 := hfr65 1
         (try simp only [show (k28).sz = 2 from rfl, Nat.mul_one, Nat.add_zero] at hf65_1)
         clear hcl65 hcc65 hfr65 hM65
         go_wp2_with (first | ((with_reducible refine gate_store (t := 9) (p := 61) rfl ?_); refine store_event (t := 9) (p := 61) (v := ?vo_w66) (w1 := (wr.setCell ⟨go63, (x9_2 : Int).toNat * 2 + 1, none⟩ (.string (⟨#[99, 104, 97, 110, 103, 101, 100]⟩ : ByteArray)))) ?hg ?ho ?hn ?hr ?_; (case ho => rfl); (case hg => rfl); (case hn => rfl); (case hr => first | (go_simp; done) | (go_simp; rfl)); intro w66 hw; have hg : wr.grownBy w66 (some go63) := (by rw [hw]; exact HP65.2); have hp_ : Kd.R k28 28 w66 w.heap.size (fun k_ => some k_ ≠ (.slice Ao27 t122.length co27 : Value).ownBlock ∧ some k_ ≠ (v132 : Value).ownBlock) (.slice (some ⟨go63, 0, none⟩) x7_2.length co64) y154 := (by rw [hw, Ny154.out]; exact HP65.1); clear HP65; have n0_ := as0 (Kd.R_over' (v := (.slice (some ⟨go63, 0, none⟩) x7_2.length co64)) (by (with_reducible repeat (first | apply Kd.R_alloc | apply Kd.R_drewN | apply Kd.R_drew)); exact HO_0.out) (Kd.R_typed HO_7.out) (by decide) hg); have n1_ := as0 (Kd.R_after (v := (.slice (some ⟨go63, 0, none⟩) x7_2.length co64)) (v1 := (.slice (some ⟨go63, 0, none⟩) x7_2.length co64)) (ok := (fun k_ => some k_ ≠ (v132 : Value).ownBlock)) (by (with_reducible repeat (first | apply Kd.R_alloc | apply Kd.R_drewN | apply Kd.R_drew)); exact Kd.R_mono HO_5.out (fun _ hk => ⟨hk.2, hk.1⟩)) hg (.inl rfl)); have n2_ := as0 (hp_); have n3_ := as0 (Kd.R_after (v := (.slice (some ⟨go63, 0, none⟩) x7_2.length co64)) (v1 := (.slice (some ⟨go63, 0, none⟩) x7_2.length co64)) (ok := (fun k_ => some k_ ≠ (.slice Ao27 t122.length co27 : Value).ownBlock)) (by (with_reducible repeat (first | apply Kd.R_alloc | apply Kd.R_drewN | apply Kd.R_drew)); exact HO_8.out) hg (.inl rfl)); have n4_ := as0 (blk_grown (g := gb111) (o := .cells #[.string ((rd_T25 t118 0).f0), .string ((rd_T25 t118 0).f1)] 25 (0, 0)) (by (with_reducible repeat (first | refine blk_drewN ?_ _ | refine blk_drew ?_ | refine blk_alloc ?_ _)); exact BK111.out) hg (Kd.R_ne HO_7.out BK111.out (by decide))); have n5_ := as0 ((by rw [hw]; exact below_set (HB.out) GB63.out : Below w.heap.size w w66)); clear HO_0; clear HO_5; clear HO_7; clear HO_8; clear BK111; clear HB; have HO_0 := n0_; have HO_5 := n1_; have HO_7 := n2_; have HO_8 := n3_; have BK111 := n4_; have HB := n5_; clear n0_ n1_ n2_ n3_ n4_ n5_; clear hg hw hp_))
         go_roundg k2
         case measure => have := HJ9.out; have := HK2.out; omega
         case rel => exact ⟨(y154), (wrap64 (x9_2 + 1)), (by first | rfl | (simp; done) | (simp [*]; done)), H', ⟨by have := HJ9.out; have := HK2.out; omega⟩, ⟨by (with_reducible repeat (first | apply Kd.R_alloc | apply Kd.R_drewN | apply Kd.R_drew)); exact HO_0.out⟩, ⟨by (with_reducible repeat (first | apply Kd.R_alloc | apply Kd.R_drewN | apply Kd.R_drew)); exact Kd.R_mono HO_5.out (fun _ hk => ⟨hk.2, hk.1⟩)⟩, ⟨by (with_reducible repeat (first | apply Kd.R_alloc | apply Kd.R_drewN | apply Kd.R_drew)); exact HO_7.out⟩, ⟨by (with_reducible repeat (first | apply Kd.R_alloc | apply Kd.R_drewN | apply Kd.R_drew)); exact HO_8.out⟩, ⟨by (with_reducible repeat (first | refine blk_drewN ?_ _ | refine blk_drew ?_ | refine blk_alloc ?_ _)); exact BK111.out⟩, ⟨by repeat (first | (with_reducible first | exact HB.out | apply below_alloc | apply pw_below_drewN | apply below_drew1 | refine below_set ?_ GE111.out) | exact HB.out)⟩⟩
        ·rw [if_neg c62] at H
         exact absurd H (by simp)
       ·rw [if_neg c61] at H
        have c61b0 : decide (x9_2 < (x7_2.length : Int)) = false := decide_eq_false c61
        clear c61
        have H' := as0 H
        clear H
        obtain ⟨Ao67, co67, eo67⟩ := Kd.R_slice HO_7.out
        subst eo67
        go_wp2
        go_loopg [10] k2 (fun kq v10 w' => ∃ (x8_3 : List (S28)) (x10_3 : Int), v10 = .int .i64 x10_3 ∧ Aside0 (bulletinlaw09_FieldWith.l1 kq t112 t122 x8_3 x10_3 = some r) ∧ Aside0 (kq ≤ k2) ∧ Aside0 (Kd.R k25 25 w' w.heap.size (fun k_ => k_ ≠ gb111) (.slice Ao22 t112.length co22) t112) ∧ Aside0 (Kd.R k28 28 w' w.heap.size (fun k_ => some k_ ≠ (v132 : Value).ownBlock) (.slice Ao27 t122.length co27) t122) ∧ Aside0 (Kd.R k28 28 w' w.heap.size (fun k_ => some k_ ≠ ((.slice Ao27 t122.length co27) : Value).ownBlock) v132 x8_3) ∧ Aside0 (w'.heap[gb111]? = some (.cells #[.string ((rd_T25 t118 0).f0), .string ((rd_T25 t118 0).f1)] 25 (0, 0))) ∧ Aside0 (Below w.heap.size w w'))
        case atStart => exact ⟨(t131), (0), (by first | rfl | (simp; done) | (simp [*]; done)), H', ⟨Nat.le_refl _⟩, ⟨by (with_reducible repeat (first | apply Kd.R_alloc | apply Kd.R_drewN | apply Kd.R_drew)); exact HO_0.out⟩, ⟨by (with_reducible repeat (first | apply Kd.R_alloc | apply Kd.R_drewN | apply Kd.R_drew)); exact Kd.R_mono HO_5.out (fun _ hk => hk.2)⟩, ⟨by (with_reducible repeat (first | apply Kd.R_alloc | apply Kd.R_drewN | apply Kd.R_drew)); exact Kd.R_mono HO_8.out (fun _ hk => hk.1)⟩, ⟨by (with_reducible repeat (first | refine blk_drewN ?_ _ | refine blk_drew ?_ | refine blk_alloc ?_ _)); exact BK111.out⟩, ⟨by repeat (first | (with_reducible first | exact HB.out | apply below_alloc | apply pw_below_drewN | apply below_drew1 | refine below_set ?_ GE111.out) | exact HB.out)⟩⟩
        case round =>
         clear H'
         try clear c2
         try clear p2
         try clear c3
         try clear c6
         try clear p6
         try clear q6
         try clear hx6
         try clear hf6
         try clear c24
         try clear c25
         try clear c33
         try clear c35
         try clear c36
         try clear c60
         try clear c61
         try clear c61b0
         try clear c62
         try clear c62b0
         try clear c63
         try clear p63
         try clear q63
         try clear hx63
         try clear hf63
         try clear p64
         try clear c65
         try clear hx65
         try clear hf65
         try clear hx63_0
         try clear hx63_1
         try clear hx65_1
         try clear p2
         try clear p63
         try clear q63
         obtain ⟨x8_3, x10_3, rfl, HA, HK3, HO_0, HO_5, HO_8, BK111, HB⟩ := hrel
         cases gk with
         | zero => exact absurd HA.out (by simp [bulletinlaw09_FieldWith.l1])
         | succ k3 =>
          have H := HA.out
          clear HA
          simp only [bulletinlaw09_FieldWith.l1] at H
          by_cases c68 : x10_3 < (x8_3.length : Int)
          ·rw [if_pos c68] at H
           have c68b0 : decide (x10_3 < (x8_3.length : Int)) = true := decide_eq_true c68
           clear c68
           by_cases c69 : 0 ≤ x10_3
           ·rw [if_pos c69] at H
            have c69b0 : decide (0 ≤ x10_3) = true := decide_eq_true c69
            clear c69
            obtain ⟨y155, hy155⟩ : ∃ y_ : List (S28), y_ = (x8_3.set (x10_3 : Int).toNat (⟨(⟨#[67, 104, 97, 110, 103, 101, 100]⟩ : ByteArray), (rd_T28 x8_3 x10_3).f1⟩ : S28)) := ⟨_, rfl⟩
            replace H : (bulletinlaw09_FieldWith.l1 k3 t112 t122 y155 (wrap64 (x10_3 + 1))) = some r := by first | (rw [hy155]; with_reducible exact H) | (have H2_ := (Option.bind_some _ _).symm.trans H; rw [hy155]; with_reducible exact H2_) | (have H2_ := (Option.bind_some _ _).symm.trans H; with_reducible exact H2_) | with_reducible exact H | (rw [hy155]; exact H) | exact H
            have Ny155 := as0 hy155
            clear hy155
            have H' := as0 H
            clear H
            obtain ⟨Ao71, co71, eo71⟩ := Kd.R_slice HO_8.out
            subst eo71
            have p70 : 0 ≤ (x10_3 : Int) := of_decide_eq_true (by first | (with_reducible assumption) | assumption)
            have q70 : (x10_3 : Int) < ((x8_3.length : Int) : Int) := of_decide_eq_true (by first | (with_reducible assumption) | assumption)
            obtain ⟨go70, co70, eo70, gb70, gl70, cl70, HG70⟩ := Kd.R_form HO_8.out (by omega)
            (first | cases eo70 | (injection eo70 with ea_ en_ ec_; (first | subst ea_ | (injection ea_ with ea_; subst ea_)); subst ec_; clear en_))
            have GB70 := as0 gb70
            have GG70 := as0 HG70
            clear gb70 gl70 HG70
            obtain ⟨ce70, hcl70, hM70, hcc70, hfr70⟩ := Kd.R_elem HO_8.out z28 (x10_3 : Int) p70 q70
            obtain rfl := k28_openM hM70
            have hx70_0 : wr.cell? ⟨go70, (x10_3 : Int).toNat * 2, none⟩ = some (.string ((rd_T28 x8_3 x10_3).f0)) := hcc70 0 _ rfl
            have hx70_1 : wr.cell? ⟨go70, (x10_3 : Int).toNat * 2 + 1, none⟩ = some (.string ((rd_T28 x8_3 x10_3).f1)) := hcc70 1 _ rfl
            have hf70_0 : wr.frozen? ⟨go70, (x10_3 : Int).toNat * 2, none⟩ = false := hfr70 0
            have hf70_1 : wr.frozen? ⟨go70, (x10_3 : Int).toNat * 2 + 1, none⟩ = false := hfr70 1
            clear hcl70 hcc70 hfr70 hM70
            replace p70 := eq_true p70
            replace q70 := eq_true q70
            have HX72 := as0 (show Kd.R k28 28 wr w.heap.size (fun k_ => some k_ ≠ (.slice Ao27 t122.length co27 : Value).ownBlock) (.slice (some ⟨go70, 0, none⟩) x8_3.length co71) x8_3 from HO_8.out)
            obtain ⟨ce72, hcl72, hM72, hcc72, hfr72⟩ := Kd.R_elem HX72.out z28 (x10_3 : Int) (of_decide_eq_true (by first | (with_reducible assumption) | assumption)) (by have h_ : (x10_3 : Int) < ((x8_3.length : Int) : Int) := of_decide_eq_true (by first | (with_reducible assumption) | assumption); first | exact h_ | (have e_ := (Kd.R_reads' HO_8.out).1; omega) | simpa using h_)
            obtain rfl := k28_openM hM72
            have HP72 := Kd.R_seg HX72.out (x10_3 : Int) (of_decide_eq_true (by first | (with_reducible assumption) | assumption)) (by have h_ : (x10_3 : Int) < ((x8_3.length : Int) : Int) := of_decide_eq_true (by first | (with_reducible assumption) | assumption); first | exact h_ | (have e_ := (Kd.R_reads' HO_8.out).1; omega) | simpa using h_) (seg := [.string (⟨#[67, 104, 97, 110, 103, 101, 100]⟩ : ByteArray)]) (j := 0) hcl72 hcc72 (show 1 ≤ 2 from by decide) (x' := (⟨(⟨#[67, 104, 97, 110, 103, 101, 100]⟩ : ByteArray), (rd_T28 x8_3 x10_3).f1⟩ : S28)) (k28_mkM _ _ _ (⟨(⟨#[67, 104, 97, 110, 103, 101, 100]⟩ : ByteArray), (rd_T28 x8_3 x10_3).f1⟩ : S28) ) (fun _ hk => hk)
            have hx72_0 := hcc72 0 _ rfl
            (try simp only [show (k28).sz = 2 from rfl, Nat.mul_one, Nat.add_zero] at hx72_0)
            have hf72_0 := hfr72 0
            (try simp only [show (k28).sz = 2 from rfl, Nat.mul_one, Nat.add_zero] at hf72_0)
            clear hcl72 hcc72 hfr72 hM72
            go_wp2_with (first | ((with_reducible refine gate_store (t := 9) (p := 71) rfl ?_); refine store_event (t := 9) (p := 71) (v := ?vo_w73) (w1 := (wr.setCell ⟨go70, (x10_3 : Int).toNat * 2, none⟩ (.string (⟨#[67, 104, 97, 110, 103, 101, 100]⟩ : ByteArray)))) ?hg ?ho ?hn ?hr ?_; (case ho => rfl); (case hg => rfl); (case hn => rfl); (case hr => first | (go_simp; done) | (go_simp; rfl)); intro w73 hw; have hg : wr.grownBy w73 (some go70) := (by rw [hw]; exact HP72.2); have hp_ : Kd.R k28 28 w73 w.heap.size (fun k_ => some k_ ≠ (.slice Ao27 t122.length co27 : Value).ownBlock) (.slice (some ⟨go70, 0, none⟩) x8_3.length co71) y155 := (by rw [hw, Ny155.out]; exact HP72.1); clear HP72; have n0_ := as0 (Kd.R_over' (v := (.slice (some ⟨go70, 0, none⟩) x8_3.length co71)) (by (with_reducible repeat (first | apply Kd.R_alloc | apply Kd.R_drewN | apply Kd.R_drew)); exact HO_0.out) (Kd.R_typed HO_8.out) (by decide) hg); have n1_ := as0 (Kd.R_after (v := (.slice (some ⟨go70, 0, none⟩) x8_3.length co71)) (v1 := (.slice (some ⟨go70, 0, none⟩) x8_3.length co71)) (ok := (fun _ => True)) (by (with_reducible repeat (first | apply Kd.R_alloc | apply Kd.R_drewN | apply Kd.R_drew)); exact Kd.R_mono HO_5.out (fun _ hk => ⟨trivial, hk⟩)) hg (.inl rfl)); have n2_ := as0 (hp_); have n3_ := as0 (blk_grown (g := gb111) (o := .cells #[.string ((rd_T25 t118 0).f0), .string ((rd_T25 t118 0).f1)] 25 (0, 0)) (by (with_reducible repeat (first | refine blk_drewN ?_ _ | refine blk_drew ?_ | refine blk_alloc ?_ _)); exact BK111.out) hg (Kd.R_ne HO_8.out BK111.out (by decide))); have n4_ := as0 ((by rw [hw]; exact below_set (HB.out) GB70.out : Below w.heap.size w w73)); clear HO_0; clear HO_5; clear HO_8; clear BK111; clear HB; have HO_0 := n0_; have HO_5 := n1_; have HO_8 := n2_; have BK111 := n3_; have HB := n4_; clear n0_ n1_ n2_ n3_ n4_; clear hg hw hp_))
            go_roundg k3
            case measure => have := HJ9.out; have := HK2.out; have := HK3.out; omega
            case rel => exact ⟨(y155), (wrap64 (x10_3 + 1)), (by first | rfl | (simp; done) | (simp [*]; done)), H', ⟨by have := HJ9.out; have := HK2.out; have := HK3.out; omega⟩, ⟨by (with_reducible repeat (first | apply Kd.R_alloc | apply Kd.R_drewN | apply Kd.R_drew)); exact HO_0.out⟩, ⟨by (with_reducible repeat (first | apply Kd.R_alloc | apply Kd.R_drewN | apply Kd.R_drew)); exact Kd.R_mono HO_5.out (fun _ hk => hk.2)⟩, ⟨by (with_reducible repeat (first | apply Kd.R_alloc | apply Kd.R_drewN | apply Kd.R_drew)); exact HO_8.out⟩, ⟨by (with_reducible repeat (first | refine blk_drewN ?_ _ | refine blk_drew ?_ | refine blk_alloc ?_ _)); exact BK111.out⟩, ⟨by repeat (first | (with_reducible first | exact HB.out | apply below_alloc | apply pw_below_drewN | apply below_drew1 | refine below_set ?_ GE111.out) | exact HB.out)⟩⟩
           ·rw [if_neg c69] at H
            exact absurd H (by simp)
          ·rw [if_neg c68] at H
           have c68b0 : decide (x10_3 < (x8_3.length : Int)) = false := decide_eq_false c68
           clear c68
           replace H := Option.bind_eq_some_iff.mp H
           obtain ⟨t156, A740, H⟩ := H
           replace H : (if t156 = true then ((PA.bulletinlaw09_Of.f k3 t122).bind fun t157 => ((PA.bulletinref09_Same.f k3 t157 t112).bind fun t160 => (some t160))) else (some false)) = some r := H
           have A74 := as0 A740
           clear A740
           by_cases c75 : t156 = true
           ·subst c75
            have H1 : ((PA.bulletinlaw09_Of.f k3 t122).bind fun t157 => ((PA.bulletinref09_Same.f k3 t157 t112).bind fun t160 => (some t160))) = some r := by rw [if_pos rfl] at H; exact H
            clear H
            have H := H1
            clear H1
            replace H := Option.bind_eq_some_iff.mp H
            obtain ⟨t157, A760, H⟩ := H
            replace H : ((PA.bulletinref09_Same.f k3 t157 t112).bind fun t160 => (some t160)) = some r := H
            have A76 := as0 A760
            clear A760
            replace H := Option.bind_eq_some_iff.mp H
            obtain ⟨t160, A770, H⟩ := H
            replace H : (some t160) = some r := H
            have A77 := as0 A770
            clear A770
            obtain rfl := Option.some.inj H
            obtain ⟨Ao78, co78, eo78⟩ := Kd.R_slice HO_8.out
            subst eo78
            go_wp2_with (first | ((with_reducible refine gate_callee (f := 11) rfl ?_); refine goesL_ (some 72) rfl rfl Try.func11 (by kernel_rfl) rfl #[] rfl (by (try simp only [List.map_toArray, List.map_cons, List.map_nil]); first | done | rfl | (simp only [List.length_drop, List.length_take]; rfl)) ?_; (with_reducible refine (GV.known.calls  true _ ?side1 A74.out).mono ?_); (case side1 => exact gm_at HGM.out (by repeat (first | (with_reducible first | exact HB.out | apply below_alloc | apply pw_below_drewN | apply below_drew1 | refine below_set ?_ GE111.out) | exact HB.out))); rintro e w79 ⟨rfl, hb⟩; refine ⟨_, rfl, ?_⟩; have n0_ := as0 (Kd.R_below (by (with_reducible repeat (first | apply Kd.R_alloc | apply Kd.R_drewN | apply Kd.R_drew)); exact HO_0.out) hb); have n1_ := as0 (Kd.R_below (by (with_reducible repeat (first | apply Kd.R_alloc | apply Kd.R_drewN | apply Kd.R_drew)); exact HO_5.out) hb); have n2_ := as0 (Kd.R_below (by (with_reducible repeat (first | apply Kd.R_alloc | apply Kd.R_drewN | apply Kd.R_drew)); exact HO_8.out) hb); have n3_ := as0 (blk_below (g := gb111) (o := .cells #[.string ((rd_T25 t118 0).f0), .string ((rd_T25 t118 0).f1)] 25 (0, 0)) (by (with_reducible repeat (first | refine blk_drewN ?_ _ | refine blk_drew ?_ | refine blk_alloc ?_ _)); exact BK111.out) hb); have n4_ := as0 (below_step (by repeat (first | (with_reducible first | exact HB.out | apply below_alloc | apply pw_below_drewN | apply below_drew1 | refine below_set ?_ GE111.out) | exact HB.out)) hb); clear HO_0; clear HO_5; clear HO_8; clear BK111; clear HB; have HO_0 := n0_; have HO_5 := n1_; have HO_8 := n2_; have BK111 := n3_; have HB := n4_; clear n0_ n1_ n2_ n3_ n4_; (try clear hb); (try clear hb2); (try clear hk); (try clear hi)) | (go_at_call 25; (with_reducible refine (PA.bulletinlaw09_Of.calls k3 _ _ t122 t157 _ ?side1 ?side2 A76.out).mono ?_); (case side1 => repeat (first | exact (Kd.R_reads' HO_5.out).2.2 | (with_reducible refine Kd.C_alloc ?_ _) | (with_reducible refine Kd.C_drewN ?_ _) | (with_reducible refine Kd.C_drew ?_))); (case side2 => exact (Kd.R_reads' HO_5.out).2.1); rintro e w80 ⟨v158, rfl, ho0, hb⟩; have n0_ := as0 (Kd.R_elder' (by (with_reducible repeat (first | apply Kd.R_alloc | apply Kd.R_drewN | apply Kd.R_drew)); exact HO_0.out) (Kd.R_base ho0) hb); have n1_ := as0 (Kd.R_below (by (with_reducible repeat (first | apply Kd.R_alloc | apply Kd.R_drewN | apply Kd.R_drew)); exact HO_5.out) hb); have n2_ := as0 (Kd.R_below (by (with_reducible repeat (first | apply Kd.R_alloc | apply Kd.R_drewN | apply Kd.R_drew)); exact HO_8.out) hb); have n3_ := as0 (Kd.R_lower (Kd.R_newB (Kd.R_new' ho0 (Kd.R_lt (by (with_reducible repeat (first | apply Kd.R_alloc | apply Kd.R_drewN | apply Kd.R_drew)); exact HO_0.out))) (g := gb111) (o := .cells #[.string ((rd_T25 t118 0).f0), .string ((rd_T25 t118 0).f1)] 25 (0, 0)) (by (with_reducible repeat (first | refine blk_drewN ?_ _ | refine blk_drew ?_ | refine blk_alloc ?_ _)); exact BK111.out)) (below_size (by repeat (first | (with_reducible first | exact HB.out | apply below_alloc | apply pw_below_drewN | apply below_drew1 | refine below_set ?_ GE111.out) | exact HB.out)))); have n4_ := as0 (blk_below (g := gb111) (o := .cells #[.string ((rd_T25 t118 0).f0), .string ((rd_T25 t118 0).f1)] 25 (0, 0)) (by (with_reducible repeat (first | refine blk_drewN ?_ _ | refine blk_drew ?_ | refine blk_alloc ?_ _)); exact BK111.out) hb); have n5_ := as0 (below_step (by repeat (first | (with_reducible first | exact HB.out | apply below_alloc | apply pw_below_drewN | apply below_drew1 | refine below_set ?_ GE111.out) | exact HB.out)) hb); clear HO_0; clear HO_5; clear HO_8; clear BK111; clear HB; have HO_0 := n0_; have HO_5 := n1_; have HO_8 := n2_; have HO159 := n3_; have BK111 := n4_; have HB := n5_; clear n0_ n1_ n2_ n3_ n4_ n5_; (try clear hb); (try clear hb2); (try clear hk); (try clear hi); (try clear ho0); obtain ⟨Ao81, co81, eo81⟩ := Kd.R_slice HO159.out; subst eo81) | (go_at_call 24; (with_reducible refine (PA.bulletinref09_Same.calls k3 _ _ t157 _ _ t112 t160 _ ?side1 ?side2 ?side3 ?side4 A77.out).mono ?_); (case side1 => repeat (first | exact (Kd.R_reads' HO159.out).2.2 | (with_reducible refine Kd.C_alloc ?_ _) | (with_reducible refine Kd.C_drewN ?_ _) | (with_reducible refine Kd.C_drew ?_))); (case side2 => exact (Kd.R_reads' HO159.out).2.1); (case side3 => repeat (first | exact (Kd.R_reads' HO_0.out).2.2 | (with_reducible refine Kd.C_alloc ?_ _) | (with_reducible refine Kd.C_drewN ?_ _) | (with_reducible refine Kd.C_drew ?_))); (case side4 => exact (Kd.R_reads' HO_0.out).2.1); rintro e w' ⟨rfl, ⟨nd, rfl⟩⟩))
            go_ret
            exact ⟨by first | rfl | (simp [errW_none, errW_some] <;> rfl) | (simp [*, errW_none, errW_some] <;> rfl), by repeat (first | (with_reducible first | exact HB.out | apply below_alloc | apply pw_below_drewN | apply below_drew1 | refine below_set ?_ GE111.out) | exact HB.out)⟩
           ·replace c75 := Bool.eq_false_iff.mpr c75
            subst c75
            have H1 : (some false) = some r := by rw [if_neg (show ¬ (false = true) by decide)] at H; exact H
            clear H
            have H := H1
            clear H1
            obtain rfl := Option.some.inj H
            obtain ⟨Ao82, co82, eo82⟩ := Kd.R_slice HO_8.out
            subst eo82
            go_wp2_with (first | ((with_reducible refine gate_callee (f := 11) rfl ?_); refine goesL_ (some 72) rfl rfl Try.func11 (by kernel_rfl) rfl #[] rfl (by (try simp only [List.map_toArray, List.map_cons, List.map_nil]); first | done | rfl | (simp only [List.length_drop, List.length_take]; rfl)) ?_; (with_reducible refine (GV.known.calls  false _ ?side1 A74.out).mono ?_); (case side1 => exact gm_at HGM.out (by repeat (first | (with_reducible first | exact HB.out | apply below_alloc | apply pw_below_drewN | apply below_drew1 | refine below_set ?_ GE111.out) | exact HB.out))); rintro e w83 ⟨rfl, hb⟩; refine ⟨_, rfl, ?_⟩; have n0_ := as0 (Kd.R_below (by (with_reducible repeat (first | apply Kd.R_alloc | apply Kd.R_drewN | apply Kd.R_drew)); exact HO_0.out) hb); have n1_ := as0 (Kd.R_below (by (with_reducible repeat (first | apply Kd.R_alloc | apply Kd.R_drewN | apply Kd.R_drew)); exact HO_5.out) hb); have n2_ := as0 (Kd.R_below (by (with_reducible repeat (first | apply Kd.R_alloc | apply Kd.R_drewN | apply Kd.R_drew)); exact HO_8.out) hb); have n3_ := as0 (blk_below (g := gb111) (o := .cells #[.string ((rd_T25 t118 0).f0), .string ((rd_T25 t118 0).f1)] 25 (0, 0)) (by (with_reducible repeat (first | refine blk_drewN ?_ _ | refine blk_drew ?_ | refine blk_alloc ?_ _)); exact BK111.out) hb); have n4_ := as0 (below_step (by repeat (first | (with_reducible first | exact HB.out | apply below_alloc | apply pw_below_drewN | apply below_drew1 | refine below_set ?_ GE111.out) | exact HB.out)) hb); clear HO_0; clear HO_5; clear HO_8; clear BK111; clear HB; have HO_0 := n0_; have HO_5 := n1_; have HO_8 := n2_; have BK111 := n3_; have HB := n4_; clear n0_ n1_ n2_ n3_ n4_; (try clear hb); (try clear hb2); (try clear hk); (try clear hi)))
            go_ret
            exact ⟨by first | rfl | (simp [errW_none, errW_some] <;> rfl) | (simp [*, errW_none, errW_some] <;> rfl), by repeat (first | (with_reducible first | exact HB.out | apply below_alloc | apply pw_below_drewN | apply below_drew1 | refine below_set ?_ GE111.out) | exact HB.out)⟩
 ·rw [if_neg c5] at H
  exact absurd H (by simp)

end Go.Proofs.Ytfeciafdioepiaa.PE
