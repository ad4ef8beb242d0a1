/- The contract of utf8's Encode at a code point, over this translation.; A law for a loop over an iterator, at the wide fence: the iterator says how it m -/
import Derived.Test.YtfeciafdioepiaaGreatDoorHPbS2
import Derived.Test.YtfeciafdioepiaaGreatDoorHPbS5
import Derived.Test.YtfeciafdioepiaaGreatDoorHPbS7
import Derived.Test.YtfeciafdioepiaaGreatDoorHPbS4
import Derived.RangeFuncFrom
import Derived.RangeFuncCalls
import Derived.Shelf.Abstract
import Derived.Shelf.RegionOpen
import Derived.WalkKit
import Derived.OwnWalkIn
import Derived.TacticsInMore
import Derived.LoopNIn
import Derived.LoopIn
namespace Go.Proofs.YtfeciafdioepiaaGreatDoor.PA
open Go.RowKit Go.Proofs.YtfeciafdioepiaaGreatDoorW.PrintWords Go.Proofs.YtfeciafdioepiaaGreatDoorW.PrintLast Go.Proofs.YtfeciafdioepiaaGreatDoorW.PrintMore
attribute [local go_sem] max2_int min2_int max_two min_two max_three min_three max_four min_four   -- for this text's walks alone
set_option linter.unusedVariables false
set_option linter.unusedSimpArgs false

/-! ### bulletinref15_Parse: function 13 -/
mutual
def bulletinref15_Parse.l0 : Nat → ByteArray → Int → Bool → Int → Option ((List (S78)) × ByteArray × Int × Int)
  | 0, _, _, _, _ => none
  | k + 1, x0, x5, x6, x7 => if x7 < (x0.size : Int) then (bulletinref15_Parse.j1 k x0 x5 x6 x7 (!x6)) else (bulletinref15_Parse.j1 k x0 x5 x6 x7 false)
def bulletinref15_Parse.j1 : Nat → ByteArray → Int → Bool → Int → Bool → Option ((List (S78)) × ByteArray × Int × Int)
  | 0, _, _, _, _, _ => none
  | k + 1, x0, x5, x6, x7, x25 => if x25 = true then ((bulletinref15_end.f k x0 x7).bind fun t172 => (if t172 = x7 then (bulletinref15_Parse.l0 k x0 x7 true (wrap64 (t172 + 1))) else (bulletinref15_Parse.l0 k x0 x5 x6 (wrap64 (t172 + 1))))) else (if 0 ≤ x5 then (if x5 ≤ (x0.size : Int) then ((bulletinref09_Parse.f k (x0.extract 0 (x5 : Int).toNat)).bind fun bt173 => (if bt173.2.2 = 0 then (if x6 = true then (if 0 ≤ (wrap64 (x5 + 1)) then (if (wrap64 (x5 + 1)) ≤ (x0.size : Int) then ((bulletinref15_Body.f k (x0.extract ((wrap64 (x5 + 1)) : Int).toNat x0.size)).bind fun bt178 => (if bt178.2 = 0 then (some (bt173.1, x0.extract ((wrap64 (x5 + 1)) : Int).toNat x0.size, 0, 0)) else (some (([] : List (S78)), (⟨#[]⟩ : ByteArray), wrap64 ((wrap64 (x5 + 1)) + bt178.1), bt178.2)))) else (none)) else (none)) else (some (([] : List (S78)), (⟨#[]⟩ : ByteArray), (x0.size : Int), 4))) else (some (([] : List (S78)), (⟨#[]⟩ : ByteArray), bt173.2.1, bt173.2.2)))) else (none)) else (none))
end
def bulletinref15_Parse.f (k : Nat) (a0 : ByteArray) : Option ((List (S78)) × ByteArray × Int × Int) := if (a0.size : Int) > 65536 then (some (([] : List (S78)), (⟨#[]⟩ : ByteArray), 65536, 5)) else (bulletinref15_Parse.l0 k a0 (a0.size : Int) false 0)
set_option maxHeartbeats 8000000 in
set_option maxRecDepth 100000 in
theorem bulletinref15_Parse.calls (k : Nat) (a0 : ByteArray) (r1 : List (S78)) (r2 : ByteArray) (r3 : Int) (r4 : Int) (w : World) (h : bulletinref15_Parse.f k a0 = some (r1, r2, r3, r4)) :
    Calls Tryz.prog 13 #[.string a0] w fun e w' => ∃ v0_ : Value, e = .returned (.tuple #[.agg #[v0_, .string r2], .int .i64 r3, .int .i64 r4]) ∧ Kd.R k78 78 w' w.heap.size (fun _ => True) v0_ r1 ∧ Below w.heap.size w w' := by
  have hu31 := Tryz.underlying31
  have HB := Aside0.mk (Below.refl w.heap.size w)
  have H : (if (a0.size : Int) > 65536 then (some (([] : List (S78)), (⟨#[]⟩ : ByteArray), 65536, 5)) else (bulletinref15_Parse.l0 k a0 (a0.size : Int) false 0)) = some (r1, r2, r3, r4) := h
  clear h
  by_cases c2 : (a0.size : Int) > 65536
  · rw [if_pos c2] at H
    have c2b0 : decide (65536 < (a0.size : Int)) = true := decide_eq_true c2
    have c2b1 : decide (65536 < a0.size) = true := decide_eq_true (by omega)
    clear c2
    simp only [Option.some.injEq, Prod.mk.injEq] at H
    obtain ⟨rfl, rfl, rfl, rfl⟩ := H
    go_enter Tryz.func13, Tryz.ntmps13
    go_wp2_with (first | ((with_reducible refine gate_dst (N := 2) rfl ?_); refine box_event ?hg (N := 2) ?hd (cs := #[.slice none 0 0, .string (⟨#[]⟩ : ByteArray)]) (t := 31) ?hr ?_; (case hd => rfl); (case hg => rfl); (case hr => first | (go_simp; done) | (go_simp; rfl)); intro gb171 hg w3 hbox hb; have n0_ := Aside0.mk (below_step (by repeat (first | (with_reducible first | exact HB.out | apply below_alloc | apply pw_below_drewN | apply below_drew1) | exact HB.out)) hb); have n1_ := Aside0.mk (hbox); have n2_ := Aside0.mk ((by rw [hg]; exact (below_size (by repeat (first | (with_reducible first | exact HB.out | apply below_alloc | apply pw_below_drewN | apply below_drew1) | exact HB.out))) : w.heap.size ≤ gb171)); have n3_ := Aside0.mk ((by rw [hg]; exact (below_size (by repeat (first | (with_reducible first | exact HB.out | apply below_alloc | apply pw_below_drewN | apply below_drew1) | exact HB.out))) : w.heap.size ≤ gb171)); clear HB; have HB := n0_; have BK171 := n1_; have GW171 := n2_; have GE171 := n3_; clear n0_ n1_ n2_ n3_; clear hb hbox hg; have hcz4_0 : w3.cell? ⟨gb171, 0, none⟩ = some (.slice none 0 0) := (blk_cell BK171.out 0).trans rfl; have hcz4_1 : w3.cell? ⟨gb171, 1, none⟩ = some (.string (⟨#[]⟩ : ByteArray)) := (blk_cell BK171.out 1).trans rfl; have hfz4_0 := blk_frozen BK171.out 0; have hfz4_1 := blk_frozen BK171.out 1))
    refine bodyPost_ret (results_ctt rfl _ _ gb171 31 #[.slice none 0 0, .string (⟨#[]⟩ : ByteArray)] (0, 0) _ rfl (by (with_reducible repeat (first | refine blk_drewN ?_ _ | refine blk_drew ?_ | refine blk_alloc ?_ _)); refine blk_put (cs := #[.slice none 0 0, .string (⟨#[]⟩ : ByteArray)]) ?_ 1 _ rfl; (with_reducible repeat (first | refine blk_drewN ?_ _ | refine blk_drew ?_ | refine blk_alloc ?_ _)); refine blk_put (cs := #[.slice none 0 0, .string (⟨#[]⟩ : ByteArray)]) ?_ 0 _ rfl; (with_reducible repeat (first | refine blk_drewN ?_ _ | refine blk_drew ?_ | refine blk_alloc ?_ _)); exact BK171.out) Tryz.underlying31 rfl (by kernel_rfl)) rfl ?_
    exact ⟨_, by first | rfl | (simp [errW_none, errW_some] <;> rfl) | (simp [*, errW_none, errW_some] <;> rfl), by first | exact Kd.R_nil _ _ _ _ _ | exact Kd.N_nil _ _ _ _ _ | exact Kd.V_nil _ _ _ _ _ | exact Kd.Q_nil _ _ _ _ _ | exact Kd.S_nil _ _ _ _ _, by repeat (first | (with_reducible first | exact HB.out | apply below_alloc | apply pw_below_drewN | apply below_drew1 | refine below_set ?_ GE171.out) | exact HB.out)⟩
  · rw [if_neg c2] at H
    have c2b0 : decide (65536 < (a0.size : Int)) = false := decide_eq_false c2
    have c2b1 : decide (65536 < a0.size) = false := decide_eq_false (by omega)
    clear c2
    have H' := Aside0.mk H
    clear H
    go_enter Tryz.func13, Tryz.ntmps13
    go_wp2_with (first | ((with_reducible refine gate_dst (N := 2) rfl ?_); refine box_event ?hg (N := 2) ?hd (cs := #[.slice none 0 0, .string (⟨#[]⟩ : ByteArray)]) (t := 31) ?hr ?_; (case hd => rfl); (case hg => rfl); (case hr => first | (go_simp; done) | (go_simp; rfl)); intro gb171 hg w5 hbox hb; have n0_ := Aside0.mk (below_step (by repeat (first | (with_reducible first | exact HB.out | apply below_alloc | apply pw_below_drewN | apply below_drew1) | exact HB.out)) hb); have n1_ := Aside0.mk (hbox); have n2_ := Aside0.mk ((by rw [hg]; exact (below_size (by repeat (first | (with_reducible first | exact HB.out | apply below_alloc | apply pw_below_drewN | apply below_drew1) | exact HB.out))) : w.heap.size ≤ gb171)); have n3_ := Aside0.mk ((by rw [hg]; exact (below_size (by repeat (first | (with_reducible first | exact HB.out | apply below_alloc | apply pw_below_drewN | apply below_drew1) | exact HB.out))) : w.heap.size ≤ gb171)); clear HB; have HB := n0_; have BK171 := n1_; have GW171 := n2_; have GE171 := n3_; clear n0_ n1_ n2_ n3_; clear hb hbox hg))
    go_loopg [5, 6, 7] k (fun kq v5 v6 v7 w' => ∃ (x5_1 : Int) (x6_1 : Bool) (x7_1 : Int), v5 = .int .i64 x5_1 ∧ v6 = .bool x6_1 ∧ v7 = .int .i64 x7_1 ∧ Aside0 (bulletinref15_Parse.l0 kq a0 x5_1 x6_1 x7_1 = some (r1, r2, r3, r4)) ∧ Aside0 (kq ≤ k) ∧ Aside0 (w'.heap[gb171]? = some (.cells #[(.slice none 0 0), .string (⟨#[]⟩ : ByteArray)] 31 (0, 0))) ∧ Aside0 (Below w.heap.size w w'))
    case atStart => exact ⟨((a0.size : Int)), (false), (0), (by first | rfl | (simp; done) | (simp [*]; done)), (by first | rfl | (simp; done) | (simp [*]; done)), (by first | rfl | (simp; done) | (simp [*]; done)), H', ⟨Nat.le_refl _⟩, ⟨by (with_reducible repeat (first | refine blk_drewN ?_ _ | refine blk_drew ?_ | refine blk_alloc ?_ _)); exact BK171.out⟩, ⟨by repeat (first | (with_reducible first | exact HB.out | apply below_alloc | apply pw_below_drewN | apply below_drew1 | refine below_set ?_ GE171.out) | exact HB.out)⟩⟩
    case round =>
      clear H'
      try clear c1
      try clear c2
      try clear c2b0
      try clear c2b1
      try clear p2
      try clear hcz4_0
      try clear hcz4_1
      try clear hfz4_0
      try clear hfz4_1
      obtain ⟨x5_1, x6_1, x7_1, rfl, rfl, rfl, HA, HK1, BK171, HB⟩ := hrel
      cases gk with
      | zero => exact absurd HA.out (by simp [bulletinref15_Parse.l0])
      | succ k1 =>
        have H := HA.out
        clear HA
        simp only [bulletinref15_Parse.l0] at H
        have HC6 := Aside0.mk H
        clear H
        go_upto_region 6 with (fail)
        go_cut [25] (fun v25 wc => ∃ (kq : Nat) (x25_5 : Bool), v25 = .bool x25_5 ∧ Aside0 (bulletinref15_Parse.j1 kq a0 x5_1 x6_1 x7_1 x25_5 = some (r1, r2, r3, r4)) ∧ Aside0 (kq ≤ k1) ∧ Aside0 (wc.heap[gb171]? = some (.cells #[(.slice none 0 0), .string (⟨#[]⟩ : ByteArray)] 31 (0, 0))) ∧ Aside0 (Below w.heap.size w wc))
        case first =>
          have H := HC6.out
          clear HC6
          by_cases c7 : x7_1 < (a0.size : Int)
          · rw [if_pos c7] at H
            have c7b0 : decide (x7_1 < (a0.size : Int)) = true := decide_eq_true c7
            clear c7
            (first | rw [c7b0] | (simp only [i64_w, i32_w]; rw [c7b0]) | skip)
            have H' := Aside0.mk H
            clear H
            go_wp2
            go_meet
            case rel => exact ⟨_, (!x6_1), (by first | rfl | (simp; done) | (simp [*]; done)), H', ⟨by have := HK1.out; first | omega | exact Nat.le_refl _⟩, ⟨by (with_reducible repeat (first | refine blk_drewN ?_ _ | refine blk_drew ?_ | refine blk_alloc ?_ _)); exact BK171.out⟩, ⟨by repeat (first | (with_reducible first | exact HB.out | apply below_alloc | apply pw_below_drewN | apply below_drew1 | refine below_set ?_ GE171.out) | exact HB.out)⟩⟩
          · rw [if_neg c7] at H
            have c7b0 : decide (x7_1 < (a0.size : Int)) = false := decide_eq_false c7
            clear c7
            (first | rw [c7b0] | (simp only [i64_w, i32_w]; rw [c7b0]) | skip)
            have H' := Aside0.mk H
            clear H
            go_wp2
            go_meet
            case rel => exact ⟨_, (false), (by first | rfl | (simp; done) | (simp [*]; done)), H', ⟨by have := HK1.out; first | omega | exact Nat.le_refl _⟩, ⟨by (with_reducible repeat (first | refine blk_drewN ?_ _ | refine blk_drew ?_ | refine blk_alloc ?_ _)); exact BK171.out⟩, ⟨by repeat (first | (with_reducible first | exact HB.out | apply below_alloc | apply pw_below_drewN | apply below_drew1 | refine below_set ?_ GE171.out) | exact HB.out)⟩⟩
        case rest =>
          clear HC6
          try clear c1
          try clear c2
          try clear c2b0
          try clear c2b1
          try clear p2
          try clear c7
          try clear c7b0
          try clear hcz4_0
          try clear hcz4_1
          try clear hfz4_0
          try clear hfz4_1
          try clear p2
          obtain ⟨kq, x25_5, rfl, HA, HJ5, BK171, HB⟩ := hcut
          cases kq with
          | zero => exact absurd HA.out (by simp [bulletinref15_Parse.j1])
          | succ kj5 =>
            have H := HA.out
            clear HA
            simp only [bulletinref15_Parse.j1] at H
            by_cases c8 : x25_5 = true
            · subst c8
              have H1 : ((bulletinref15_end.f kj5 a0 x7_1).bind fun t172 => (if t172 = x7_1 then (bulletinref15_Parse.l0 kj5 a0 x7_1 true (wrap64 (t172 + 1))) else (bulletinref15_Parse.l0 kj5 a0 x5_1 x6_1 (wrap64 (t172 + 1))))) = some (r1, r2, r3, r4) := by rw [if_pos rfl] at H; exact H
              clear H
              have H := H1
              clear H1
              replace H := Option.bind_eq_some_iff.mp H
              obtain ⟨t172, A90, H⟩ := H
              replace H : (if t172 = x7_1 then (bulletinref15_Parse.l0 kj5 a0 x7_1 true (wrap64 (t172 + 1))) else (bulletinref15_Parse.l0 kj5 a0 x5_1 x6_1 (wrap64 (t172 + 1)))) = some (r1, r2, r3, r4) := H
              have A9 := Aside0.mk A90
              clear A90
              by_cases c10 : t172 = x7_1
              · rw [if_pos c10] at H
                have c10b0 : (t172 == x7_1) = true := beq_iff_eq.mpr c10
                have c10b1 : (t172 != x7_1) = false := bne_eq_false_iff_eq.mpr c10
                clear c10
                have H' := Aside0.mk H
                clear H
                go_wp2_with (first | ((with_reducible refine gate_callee (f := 37) rfl ?_); refine goesL_ (some 28) rfl rfl Tryz.func37 (by kernel_rfl) rfl #[.string a0, .int .i64 x7_1] rfl (by (try simp only [List.map_toArray, List.map_cons, List.map_nil]); first | done | rfl | (simp only [List.length_drop, List.length_take]; rfl)) ?_; (with_reducible refine (bulletinref15_end.calls kj5 a0 x7_1 t172 _ A9.out).mono ?_); rintro e w' ⟨rfl, ⟨nd, rfl⟩⟩; refine ⟨_, rfl, ?_⟩))
                go_roundg kj5
                case measure => have := HK1.out; have := HJ5.out; omega
                case rel => exact ⟨(x7_1), (true), (wrap64 (t172 + 1)), (by first | rfl | (simp; done) | (simp [*]; done)), (by first | rfl | (simp; done) | (simp [*]; done)), (by first | rfl | (simp; done) | (simp [*]; done)), H', ⟨by have := HK1.out; have := HJ5.out; omega⟩, ⟨by (with_reducible repeat (first | refine blk_drewN ?_ _ | refine blk_drew ?_ | refine blk_alloc ?_ _)); exact BK171.out⟩, ⟨by repeat (first | (with_reducible first | exact HB.out | apply below_alloc | apply pw_below_drewN | apply below_drew1 | refine below_set ?_ GE171.out) | exact HB.out)⟩⟩
              · rw [if_neg c10] at H
                have c10b0 : (t172 == x7_1) = false := beq_eq_false_iff_ne.mpr c10
                have c10b1 : (t172 != x7_1) = true := bne_iff_ne.mpr c10
                have H' := Aside0.mk H
                clear H
                go_wp2_with (first | ((with_reducible refine gate_callee (f := 37) rfl ?_); refine goesL_ (some 28) rfl rfl Tryz.func37 (by kernel_rfl) rfl #[.string a0, .int .i64 x7_1] rfl (by (try simp only [List.map_toArray, List.map_cons, List.map_nil]); first | done | rfl | (simp only [List.length_drop, List.length_take]; rfl)) ?_; (with_reducible refine (bulletinref15_end.calls kj5 a0 x7_1 t172 _ A9.out).mono ?_); rintro e w' ⟨rfl, ⟨nd, rfl⟩⟩; refine ⟨_, rfl, ?_⟩))
                go_roundg kj5
                case measure => have := HK1.out; have := HJ5.out; omega
                case rel => exact ⟨(x5_1), (x6_1), (wrap64 (t172 + 1)), (by first | rfl | (simp; done) | (simp [*]; done)), (by first | rfl | (simp; done) | (simp [*]; done)), (by first | rfl | (simp; done) | (simp [*]; done)), H', ⟨by have := HK1.out; have := HJ5.out; omega⟩, ⟨by (with_reducible repeat (first | refine blk_drewN ?_ _ | refine blk_drew ?_ | refine blk_alloc ?_ _)); exact BK171.out⟩, ⟨by repeat (first | (with_reducible first | exact HB.out | apply below_alloc | apply pw_below_drewN | apply below_drew1 | refine below_set ?_ GE171.out) | exact HB.out)⟩⟩
            · replace c8 := Bool.eq_false_iff.mpr c8
              subst c8
              have H1 : (if 0 ≤ x5_1 then (if x5_1 ≤ (a0.size : Int) then ((bulletinref09_Parse.f kj5 (a0.extract 0 (x5_1 : Int).toNat)).bind fun bt173 => (if bt173.2.2 = 0 then (if x6_1 = true then (if 0 ≤ (wrap64 (x5_1 + 1)) then (if (wrap64 (x5_1 + 1)) ≤ (a0.size : Int) then ((bulletinref15_Body.f kj5 (a0.extract ((wrap64 (x5_1 + 1)) : Int).toNat a0.size)).bind fun bt178 => (if bt178.2 = 0 then (some (bt173.1, a0.extract ((wrap64 (x5_1 + 1)) : Int).toNat a0.size, 0, 0)) else (some (([] : List (S78)), (⟨#[]⟩ : ByteArray), wrap64 ((wrap64 (x5_1 + 1)) + bt178.1), bt178.2)))) else (none)) else (none)) else (some (([] : List (S78)), (⟨#[]⟩ : ByteArray), (a0.size : Int), 4))) else (some (([] : List (S78)), (⟨#[]⟩ : ByteArray), bt173.2.1, bt173.2.2)))) else (none)) else (none)) = some (r1, r2, r3, r4) := by rw [if_neg (show ¬ (false = true) by decide)] at H; exact H
              clear H
              have H := H1
              clear H1
              by_cases c11 : 0 ≤ x5_1
              · rw [if_pos c11] at H
                have c11b0 := eq_true c11
                have c11b1 : decide (0 ≤ x5_1) = true := decide_eq_true c11
                clear c11
                by_cases c12 : x5_1 ≤ (a0.size : Int)
                · rw [if_pos c12] at H
                  have c12b0 := eq_true c12
                  have c12b1 : decide (x5_1 ≤ (a0.size : Int)) = true := decide_eq_true c12
                  clear c12
                  replace H := Option.bind_eq_some_iff.mp H
                  obtain ⟨⟨t173, t174, t175⟩, A130, H⟩ := H
                  replace H : (if t175 = 0 then (if x6_1 = true then (if 0 ≤ (wrap64 (x5_1 + 1)) then (if (wrap64 (x5_1 + 1)) ≤ (a0.size : Int) then ((bulletinref15_Body.f kj5 (a0.extract ((wrap64 (x5_1 + 1)) : Int).toNat a0.size)).bind fun bt178 => (if bt178.2 = 0 then (some (t173, a0.extract ((wrap64 (x5_1 + 1)) : Int).toNat a0.size, 0, 0)) else (some (([] : List (S78)), (⟨#[]⟩ : ByteArray), wrap64 ((wrap64 (x5_1 + 1)) + bt178.1), bt178.2)))) else (none)) else (none)) else (some (([] : List (S78)), (⟨#[]⟩ : ByteArray), (a0.size : Int), 4))) else (some (([] : List (S78)), (⟨#[]⟩ : ByteArray), t174, t175))) = some (r1, r2, r3, r4) := H
                  have A13 := Aside0.mk A130
                  clear A130
                  by_cases c14 : t175 = 0
                  · rw [if_pos c14] at H
                    have c14b0 : (t175 == 0) = true := beq_iff_eq.mpr c14
                    have c14b1 : (t175 != 0) = false := bne_eq_false_iff_eq.mpr c14
                    clear c14
                    by_cases c15 : x6_1 = true
                    · subst c15
                      have H1 : (if 0 ≤ (wrap64 (x5_1 + 1)) then (if (wrap64 (x5_1 + 1)) ≤ (a0.size : Int) then ((bulletinref15_Body.f kj5 (a0.extract ((wrap64 (x5_1 + 1)) : Int).toNat a0.size)).bind fun bt178 => (if bt178.2 = 0 then (some (t173, a0.extract ((wrap64 (x5_1 + 1)) : Int).toNat a0.size, 0, 0)) else (some (([] : List (S78)), (⟨#[]⟩ : ByteArray), wrap64 ((wrap64 (x5_1 + 1)) + bt178.1), bt178.2)))) else (none)) else (none)) = some (r1, r2, r3, r4) := by rw [if_pos rfl] at H; exact H
                      clear H
                      have H := H1
                      clear H1
                      obtain ⟨ji16, hji16⟩ : ∃ j_ : Int, (wrap64 (x5_1 + 1)) = j_ := ⟨_, rfl⟩
                      replace H : (if 0 ≤ (ji16) then (if (ji16) ≤ (a0.size : Int) then ((bulletinref15_Body.f kj5 (a0.extract ((ji16) : Int).toNat a0.size)).bind fun bt178 => (if bt178.2 = 0 then (some (t173, a0.extract ((ji16) : Int).toNat a0.size, 0, 0)) else (some (([] : List (S78)), (⟨#[]⟩ : ByteArray), wrap64 ((ji16) + bt178.1), bt178.2)))) else (none)) else (none)) = some (r1, r2, r3, r4) := by first | (rw [hji16] at H; exact H) | (simp only [hji16] at H ⊢; exact H)
                      (try rw [hji16] at A13)
                      have hji16w : (IntKind.i64.wrap (x5_1 + 1)) = ji16 := (i64_w _).trans hji16
                      by_cases c17 : 0 ≤ (ji16)
                      · rw [if_pos c17] at H
                        have c17b0 := eq_true c17
                        have c17b1 : decide (0 ≤ (ji16)) = true := decide_eq_true c17
                        clear c17
                        by_cases c18 : (ji16) ≤ (a0.size : Int)
                        · rw [if_pos c18] at H
                          have c18b0 := eq_true c18
                          have c18b1 : decide ((ji16) ≤ (a0.size : Int)) = true := decide_eq_true c18
                          clear c18
                          replace H := Option.bind_eq_some_iff.mp H
                          obtain ⟨⟨t178, t179⟩, A190, H⟩ := H
                          replace H : (if t179 = 0 then (some (t173, a0.extract ((ji16) : Int).toNat a0.size, 0, 0)) else (some (([] : List (S78)), (⟨#[]⟩ : ByteArray), wrap64 ((ji16) + t178), t179))) = some (r1, r2, r3, r4) := H
                          have A19 := Aside0.mk A190
                          clear A190
                          by_cases c20 : t179 = 0
                          · rw [if_pos c20] at H
                            have c20b0 : (t179 == 0) = true := beq_iff_eq.mpr c20
                            have c20b1 : (t179 != 0) = false := bne_eq_false_iff_eq.mpr c20
                            clear c20
                            have c21b0 := eq_true (of_decide_eq_true (by first | (with_reducible assumption) | assumption) : 0 ≤ (ji16))
                            have c22b0 := eq_true (of_decide_eq_true (by first | (with_reducible assumption) | assumption) : (ji16) ≤ (a0.size : Int))
                            simp only [Option.some.injEq, Prod.mk.injEq] at H
                            obtain ⟨rfl, rfl, rfl, rfl⟩ := H
                            go_wp2_with (first | ((with_reducible refine gate_callee (f := 38) rfl ?_); refine goesL_ (some 39) rfl rfl Tryz.func38 (by kernel_rfl) rfl #[.string (a0.extract 0 (x5_1 : Int).toNat)] rfl (by (try simp only [List.map_toArray, List.map_cons, List.map_nil]); first | done | rfl | (simp only [List.length_drop, List.length_take]; rfl)) ?_; (with_reducible refine (bulletinref09_Parse.calls kj5 (a0.extract 0 (x5_1 : Int).toNat) t173 t174 t175 _ A13.out).mono ?_); rintro e w23 ⟨v176, rfl, ho0, hb⟩; refine ⟨_, rfl, ?_⟩; have n0_ := Aside0.mk (Kd.R_lower ho0 (below_size (by repeat (first | (with_reducible first | exact HB.out | apply below_alloc | apply pw_below_drewN | apply below_drew1 | refine below_set ?_ GE171.out) | exact HB.out)))); have n1_ := Aside0.mk (blk_below (g := gb171) (o := .cells #[.slice none 0 0, .string (⟨#[]⟩ : ByteArray)] 31 (0, 0)) (by (with_reducible repeat (first | refine blk_drewN ?_ _ | refine blk_drew ?_ | refine blk_alloc ?_ _)); exact BK171.out) hb); have n2_ := Aside0.mk (below_step (by repeat (first | (with_reducible first | exact HB.out | apply below_alloc | apply pw_below_drewN | apply below_drew1 | refine below_set ?_ GE171.out) | exact HB.out)) hb); clear BK171; clear HB; have HO177 := n0_; have BK171 := n1_; have HB := n2_; clear n0_ n1_ n2_; (try clear hb); (try clear hb2); (try clear hk); (try clear hi); (try clear ho0)) | ((with_reducible refine gate_callee (f := 18) rfl ?_); refine goesL_ (some 58) rfl rfl Tryz.func18 (by kernel_rfl) rfl #[.string (a0.extract ((ji16) : Int).toNat a0.size)] rfl (by (try simp only [List.map_toArray, List.map_cons, List.map_nil]); first | done | (simp only [hji16]; rfl) | rfl | (simp only [List.length_drop, List.length_take]; rfl)) ?_; (with_reducible refine (bulletinref15_Body.calls kj5 (a0.extract ((ji16) : Int).toNat a0.size) t178 t179 _ A19.out).mono ?_); rintro e w24 ⟨rfl, hb⟩; refine ⟨_, rfl, ?_⟩; have n0_ := Aside0.mk (Kd.R_below (by (with_reducible repeat (first | apply Kd.R_alloc | apply Kd.R_drewN | apply Kd.R_drew)); exact HO177.out) hb); have n1_ := Aside0.mk (blk_below (g := gb171) (o := .cells #[.slice none 0 0, .string (⟨#[]⟩ : ByteArray)] 31 (0, 0)) (by (with_reducible repeat (first | refine blk_drewN ?_ _ | refine blk_drew ?_ | refine blk_alloc ?_ _)); exact BK171.out) hb); have n2_ := Aside0.mk (below_step (by repeat (first | (with_reducible first | exact HB.out | apply below_alloc | apply pw_below_drewN | apply below_drew1 | refine below_set ?_ GE171.out) | exact HB.out)) hb); clear HO177; clear BK171; clear HB; have HO177 := n0_; have BK171 := n1_; have HB := n2_; clear n0_ n1_ n2_; (try clear hb); (try clear hb2); (try clear hk); (try clear hi); obtain ⟨Ao25, co25, eo25⟩ := Kd.R_slice HO177.out; subst eo25; have hcz26_0 : w24.cell? ⟨gb171, 0, none⟩ = some (.slice none 0 0) := (blk_cell BK171.out 0).trans rfl; have hcz26_1 : w24.cell? ⟨gb171, 1, none⟩ = some (.string (⟨#[]⟩ : ByteArray)) := (blk_cell BK171.out 1).trans rfl; have hfz26_0 := blk_frozen BK171.out 0; have hfz26_1 := blk_frozen BK171.out 1))
                            refine bodyPost_ret (results_ctt rfl _ _ gb171 31 #[.slice Ao25 t173.length co25, .string (a0.extract ((ji16) : Int).toNat a0.size)] (0, 0) _ rfl (by (with_reducible repeat (first | refine blk_drewN ?_ _ | refine blk_drew ?_ | refine blk_alloc ?_ _)); refine blk_put (cs := #[.slice Ao25 t173.length co25, .string (⟨#[]⟩ : ByteArray)]) ?_ 1 _ rfl; (with_reducible repeat (first | refine blk_drewN ?_ _ | refine blk_drew ?_ | refine blk_alloc ?_ _)); refine blk_put (cs := #[.slice none 0 0, .string (⟨#[]⟩ : ByteArray)]) ?_ 0 _ rfl; (with_reducible repeat (first | refine blk_drewN ?_ _ | refine blk_drew ?_ | refine blk_alloc ?_ _)); exact BK171.out) Tryz.underlying31 rfl (by kernel_rfl)) rfl ?_
                            exact ⟨_, by first | rfl | (simp [errW_none, errW_some] <;> rfl) | (simp only [← hji16]; first | rfl | (simp [errW_none, errW_some] <;> rfl)) | (simp [*, errW_none, errW_some] <;> rfl), by (with_reducible repeat (first | apply Kd.R_alloc | apply Kd.R_drewN | apply Kd.R_drew)); exact Kd.R_mono (Kd.R_far (p := ⟨gb171, 1, none⟩) (Kd.R_far (p := ⟨gb171, 0, none⟩) (Kd.R_types HO177.out BK171.out (by decide)) (fun _ hk => hk.2) (.slice Ao25 t173.length co25)) (fun _ hk => hk.2) (.string (a0.extract ((ji16) : Int).toNat a0.size))) (fun _ hk => trivial), by repeat (first | (with_reducible first | exact HB.out | apply below_alloc | apply pw_below_drewN | apply below_drew1 | refine below_set ?_ GE171.out) | exact HB.out)⟩
                          · rw [if_neg c20] at H
                            have c20b0 : (t179 == 0) = false := beq_eq_false_iff_ne.mpr c20
                            have c20b1 : (t179 != 0) = true := bne_iff_ne.mpr c20
                            simp only [Option.some.injEq, Prod.mk.injEq] at H
                            obtain ⟨rfl, rfl, rfl, rfl⟩ := H
                            go_wp2_with (first | ((with_reducible refine gate_callee (f := 38) rfl ?_); refine goesL_ (some 39) rfl rfl Tryz.func38 (by kernel_rfl) rfl #[.string (a0.extract 0 (x5_1 : Int).toNat)] rfl (by (try simp only [List.map_toArray, List.map_cons, List.map_nil]); first | done | rfl | (simp only [List.length_drop, List.length_take]; rfl)) ?_; (with_reducible refine (bulletinref09_Parse.calls kj5 (a0.extract 0 (x5_1 : Int).toNat) t173 t174 t175 _ A13.out).mono ?_); rintro e w27 ⟨v176, rfl, ho0, hb⟩; refine ⟨_, rfl, ?_⟩; have n0_ := Aside0.mk (Kd.R_lower ho0 (below_size (by repeat (first | (with_reducible first | exact HB.out | apply below_alloc | apply pw_below_drewN | apply below_drew1 | refine below_set ?_ GE171.out) | exact HB.out)))); have n1_ := Aside0.mk (blk_below (g := gb171) (o := .cells #[.slice none 0 0, .string (⟨#[]⟩ : ByteArray)] 31 (0, 0)) (by (with_reducible repeat (first | refine blk_drewN ?_ _ | refine blk_drew ?_ | refine blk_alloc ?_ _)); exact BK171.out) hb); have n2_ := Aside0.mk (below_step (by repeat (first | (with_reducible first | exact HB.out | apply below_alloc | apply pw_below_drewN | apply below_drew1 | refine below_set ?_ GE171.out) | exact HB.out)) hb); clear BK171; clear HB; have HO177 := n0_; have BK171 := n1_; have HB := n2_; clear n0_ n1_ n2_; (try clear hb); (try clear hb2); (try clear hk); (try clear hi); (try clear ho0)) | ((with_reducible refine gate_callee (f := 18) rfl ?_); refine goesL_ (some 58) rfl rfl Tryz.func18 (by kernel_rfl) rfl #[.string (a0.extract ((ji16) : Int).toNat a0.size)] rfl (by (try simp only [List.map_toArray, List.map_cons, List.map_nil]); first | done | (simp only [hji16]; rfl) | rfl | (simp only [List.length_drop, List.length_take]; rfl)) ?_; (with_reducible refine (bulletinref15_Body.calls kj5 (a0.extract ((ji16) : Int).toNat a0.size) t178 t179 _ A19.out).mono ?_); rintro e w28 ⟨rfl, hb⟩; refine ⟨_, rfl, ?_⟩; have n0_ := Aside0.mk (Kd.R_below (by (with_reducible repeat (first | apply Kd.R_alloc | apply Kd.R_drewN | apply Kd.R_drew)); exact HO177.out) hb); have n1_ := Aside0.mk (blk_below (g := gb171) (o := .cells #[.slice none 0 0, .string (⟨#[]⟩ : ByteArray)] 31 (0, 0)) (by (with_reducible repeat (first | refine blk_drewN ?_ _ | refine blk_drew ?_ | refine blk_alloc ?_ _)); exact BK171.out) hb); have n2_ := Aside0.mk (below_step (by repeat (first | (with_reducible first | exact HB.out | apply below_alloc | apply pw_below_drewN | apply below_drew1 | refine below_set ?_ GE171.out) | exact HB.out)) hb); clear HO177; clear BK171; clear HB; have HO177 := n0_; have BK171 := n1_; have HB := n2_; clear n0_ n1_ n2_; (try clear hb); (try clear hb2); (try clear hk); (try clear hi); have hcz29_0 : w28.cell? ⟨gb171, 0, none⟩ = some (.slice none 0 0) := (blk_cell BK171.out 0).trans rfl; have hcz29_1 : w28.cell? ⟨gb171, 1, none⟩ = some (.string (⟨#[]⟩ : ByteArray)) := (blk_cell BK171.out 1).trans rfl; have hfz29_0 := blk_frozen BK171.out 0; have hfz29_1 := blk_frozen BK171.out 1))
                            refine bodyPost_ret (results_ctt rfl _ _ gb171 31 #[.slice none 0 0, .string (⟨#[]⟩ : ByteArray)] (0, 0) _ rfl (by (with_reducible repeat (first | refine blk_drewN ?_ _ | refine blk_drew ?_ | refine blk_alloc ?_ _)); refine blk_put (cs := #[.slice none 0 0, .string (⟨#[]⟩ : ByteArray)]) ?_ 1 _ rfl; (with_reducible repeat (first | refine blk_drewN ?_ _ | refine blk_drew ?_ | refine blk_alloc ?_ _)); refine blk_put (cs := #[.slice none 0 0, .string (⟨#[]⟩ : ByteArray)]) ?_ 0 _ rfl; (with_reducible repeat (first | refine blk_drewN ?_ _ | refine blk_drew ?_ | refine blk_alloc ?_ _)); exact BK171.out) Tryz.underlying31 rfl (by kernel_rfl)) rfl ?_
                            exact ⟨_, by first | rfl | (simp [errW_none, errW_some] <;> rfl) | (simp only [← hji16]; first | rfl | (simp [errW_none, errW_some] <;> rfl)) | (simp [*, errW_none, errW_some] <;> rfl), by first | exact Kd.R_nil _ _ _ _ _ | exact Kd.N_nil _ _ _ _ _ | exact Kd.V_nil _ _ _ _ _ | exact Kd.Q_nil _ _ _ _ _ | exact Kd.S_nil _ _ _ _ _, by repeat (first | (with_reducible first | exact HB.out | apply below_alloc | apply pw_below_drewN | apply below_drew1 | refine below_set ?_ GE171.out) | exact HB.out)⟩
                        · rw [if_neg c18] at H
                          exact absurd H (by simp)
                      · rw [if_neg c17] at H
                        exact absurd H (by simp)
                    · replace c15 := Bool.eq_false_iff.mpr c15
                      subst c15
                      have H1 : (some (([] : List (S78)), (⟨#[]⟩ : ByteArray), (a0.size : Int), 4)) = some (r1, r2, r3, r4) := by rw [if_neg (show ¬ (false = true) by decide)] at H; exact H
                      clear H
                      have H := H1
                      clear H1
                      simp only [Option.some.injEq, Prod.mk.injEq] at H
                      obtain ⟨rfl, rfl, rfl, rfl⟩ := H
                      go_wp2_with (first | ((with_reducible refine gate_callee (f := 38) rfl ?_); refine goesL_ (some 39) rfl rfl Tryz.func38 (by kernel_rfl) rfl #[.string (a0.extract 0 (x5_1 : Int).toNat)] rfl (by (try simp only [List.map_toArray, List.map_cons, List.map_nil]); first | done | rfl | (simp only [List.length_drop, List.length_take]; rfl)) ?_; (with_reducible refine (bulletinref09_Parse.calls kj5 (a0.extract 0 (x5_1 : Int).toNat) t173 t174 t175 _ A13.out).mono ?_); rintro e w30 ⟨v176, rfl, ho0, hb⟩; refine ⟨_, rfl, ?_⟩; have n0_ := Aside0.mk (Kd.R_lower ho0 (below_size (by repeat (first | (with_reducible first | exact HB.out | apply below_alloc | apply pw_below_drewN | apply below_drew1 | refine below_set ?_ GE171.out) | exact HB.out)))); have n1_ := Aside0.mk (blk_below (g := gb171) (o := .cells #[.slice none 0 0, .string (⟨#[]⟩ : ByteArray)] 31 (0, 0)) (by (with_reducible repeat (first | refine blk_drewN ?_ _ | refine blk_drew ?_ | refine blk_alloc ?_ _)); exact BK171.out) hb); have n2_ := Aside0.mk (below_step (by repeat (first | (with_reducible first | exact HB.out | apply below_alloc | apply pw_below_drewN | apply below_drew1 | refine below_set ?_ GE171.out) | exact HB.out)) hb); clear BK171; clear HB; have HO177 := n0_; have BK171 := n1_; have HB := n2_; clear n0_ n1_ n2_; (try clear hb); (try clear hb2); (try clear hk); (try clear hi); (try clear ho0); have hcz31_0 : w30.cell? ⟨gb171, 0, none⟩ = some (.slice none 0 0) := (blk_cell BK171.out 0).trans rfl; have hcz31_1 : w30.cell? ⟨gb171, 1, none⟩ = some (.string (⟨#[]⟩ : ByteArray)) := (blk_cell BK171.out 1).trans rfl; have hfz31_0 := blk_frozen BK171.out 0; have hfz31_1 := blk_frozen BK171.out 1))
                      refine bodyPost_ret (results_ctt rfl _ _ gb171 31 #[.slice none 0 0, .string (⟨#[]⟩ : ByteArray)] (0, 0) _ rfl (by (with_reducible repeat (first | refine blk_drewN ?_ _ | refine blk_drew ?_ | refine blk_alloc ?_ _)); refine blk_put (cs := #[.slice none 0 0, .string (⟨#[]⟩ : ByteArray)]) ?_ 1 _ rfl; (with_reducible repeat (first | refine blk_drewN ?_ _ | refine blk_drew ?_ | refine blk_alloc ?_ _)); refine blk_put (cs := #[.slice none 0 0, .string (⟨#[]⟩ : ByteArray)]) ?_ 0 _ rfl; (with_reducible repeat (first | refine blk_drewN ?_ _ | refine blk_drew ?_ | refine blk_alloc ?_ _)); exact BK171.out) Tryz.underlying31 rfl (by kernel_rfl)) rfl ?_
                      exact ⟨_, by first | rfl | (simp [errW_none, errW_some] <;> rfl) | (simp [*, errW_none, errW_some] <;> rfl), by first | exact Kd.R_nil _ _ _ _ _ | exact Kd.N_nil _ _ _ _ _ | exact Kd.V_nil _ _ _ _ _ | exact Kd.Q_nil _ _ _ _ _ | exact Kd.S_nil _ _ _ _ _, by repeat (first | (with_reducible first | exact HB.out | apply below_alloc | apply pw_below_drewN | apply below_drew1 | refine below_set ?_ GE171.out) | exact HB.out)⟩
                  · rw [if_neg c14] at H
                    have c14b0 : (t175 == 0) = false := beq_eq_false_iff_ne.mpr c14
                    have c14b1 : (t175 != 0) = true := bne_iff_ne.mpr c14
                    simp only [Option.some.injEq, Prod.mk.injEq] at H
                    obtain ⟨rfl, rfl, rfl, rfl⟩ := H
                    go_wp2_with (first | ((with_reducible refine gate_callee (f := 38) rfl ?_); refine goesL_ (some 39) rfl rfl Tryz.func38 (by kernel_rfl) rfl #[.string (a0.extract 0 (x5_1 : Int).toNat)] rfl (by (try simp only [List.map_toArray, List.map_cons, List.map_nil]); first | done | rfl | (simp only [List.length_drop, List.length_take]; rfl)) ?_; (with_reducible refine (bulletinref09_Parse.calls kj5 (a0.extract 0 (x5_1 : Int).toNat) t173 t174 t175 _ A13.out).mono ?_); rintro e w32 ⟨v176, rfl, ho0, hb⟩; refine ⟨_, rfl, ?_⟩; have n0_ := Aside0.mk (Kd.R_lower ho0 (below_size (by repeat (first | (with_reducible first | exact HB.out | apply below_alloc | apply pw_below_drewN | apply below_drew1 | refine below_set ?_ GE171.out) | exact HB.out)))); have n1_ := Aside0.mk (blk_below (g := gb171) (o := .cells #[.slice none 0 0, .string (⟨#[]⟩ : ByteArray)] 31 (0, 0)) (by (with_reducible repeat (first | refine blk_drewN ?_ _ | refine blk_drew ?_ | refine blk_alloc ?_ _)); exact BK171.out) hb); have n2_ := Aside0.mk (below_step (by repeat (first | (with_reducible first | exact HB.out | apply below_alloc | apply pw_below_drewN | apply below_drew1 | refine below_set ?_ GE171.out) | exact HB.out)) hb); clear BK171; clear HB; have HO177 := n0_; have BK171 := n1_; have HB := n2_; clear n0_ n1_ n2_; (try clear hb); (try clear hb2); (try clear hk); (try clear hi); (try clear ho0); have hcz33_0 : w32.cell? ⟨gb171, 0, none⟩ = some (.slice none 0 0) := (blk_cell BK171.out 0).trans rfl; have hcz33_1 : w32.cell? ⟨gb171, 1, none⟩ = some (.string (⟨#[]⟩ : ByteArray)) := (blk_cell BK171.out 1).trans rfl; have hfz33_0 := blk_frozen BK171.out 0; have hfz33_1 := blk_frozen BK171.out 1))
                    refine bodyPost_ret (results_ctt rfl _ _ gb171 31 #[.slice none 0 0, .string (⟨#[]⟩ : ByteArray)] (0, 0) _ rfl (by (with_reducible repeat (first | refine blk_drewN ?_ _ | refine blk_drew ?_ | refine blk_alloc ?_ _)); refine blk_put (cs := #[.slice none 0 0, .string (⟨#[]⟩ : ByteArray)]) ?_ 1 _ rfl; (with_reducible repeat (first | refine blk_drewN ?_ _ | refine blk_drew ?_ | refine blk_alloc ?_ _)); refine blk_put (cs := #[.slice none 0 0, .string (⟨#[]⟩ : ByteArray)]) ?_ 0 _ rfl; (with_reducible repeat (first | refine blk_drewN ?_ _ | refine blk_drew ?_ | refine blk_alloc ?_ _)); exact BK171.out) Tryz.underlying31 rfl (by kernel_rfl)) rfl ?_
                    exact ⟨_, by first | rfl | (simp [errW_none, errW_some] <;> rfl) | (simp [*, errW_none, errW_some] <;> rfl), by first | exact Kd.R_nil _ _ _ _ _ | exact Kd.N_nil _ _ _ _ _ | exact Kd.V_nil _ _ _ _ _ | exact Kd.Q_nil _ _ _ _ _ | exact Kd.S_nil _ _ _ _ _, by repeat (first | (with_reducible first | exact HB.out | apply below_alloc | apply pw_below_drewN | apply below_drew1 | refine below_set ?_ GE171.out) | exact HB.out)⟩
                · rw [if_neg c12] at H
                  exact absurd H (by simp)
              · rw [if_neg c11] at H
                exact absurd H (by simp)

-- NOT PRINTED: function 65 (stringslite_Cut)

-- NOT PRINTED: function 41 (strings_Cut)

/-! ### utf8_class_within: function 94 -/
def utf8_class_within.f (a0_0 : Int) (a0_1 : Int) (a0_2 : Int) (a0_3 : Int) (a0_4 : Int) (a1 : Int) : Option (Bool) := if a1 ≥ a0_3 then (if a1 ≤ a0_4 then (if a1 < 55296 then (some true) else (some (decide (a1 > 57343)))) else (some false)) else (some false)
set_option maxHeartbeats 8000000 in
set_option maxRecDepth 100000 in
theorem utf8_class_within.calls (a0_0 : Int) (a0_1 : Int) (a0_2 : Int) (a0_3 : Int) (a0_4 : Int) (a1 : Int) (r : Bool) (w : World) (h : utf8_class_within.f a0_0 a0_1 a0_2 a0_3 a0_4 a1 = some r) :
    Calls Tryz.prog 94 #[.agg #[.int .u8 a0_0, .int .u8 a0_1, .int .u8 a0_2, .int .i32 a0_3, .int .i32 a0_4], .int .i32 a1] w fun e w' => e = .returned (.bool r) ∧ Below w.heap.size w w' := by
  have hu130 := Tryz.underlying130
  have HB := Aside0.mk (Below.refl w.heap.size w)
  have H : (if a1 ≥ a0_3 then (if a1 ≤ a0_4 then (if a1 < 55296 then (some true) else (some (decide (a1 > 57343)))) else (some false)) else (some false)) = some r := h
  clear h
  by_cases c3 : a1 ≥ a0_3
  · rw [if_pos c3] at H
    have c3b0 : decide (a0_3 ≤ a1) = true := decide_eq_true c3
    clear c3
    by_cases c4 : a1 ≤ a0_4
    · rw [if_pos c4] at H
      have c4b0 : decide (a1 ≤ a0_4) = true := decide_eq_true c4
      clear c4
      by_cases c5 : a1 < 55296
      · rw [if_pos c5] at H
        have c5b0 : decide (a1 < 55296) = true := decide_eq_true c5
        clear c5
        obtain rfl := Option.some.inj H
        go_enter Tryz.func94, Tryz.ntmps94
        go_wp2_with (first | ((with_reducible refine gate_dst (N := 2) rfl ?_); refine box_event ?hg (N := 2) ?hd (cs := #[.int .u8 a0_0, .int .u8 a0_1, .int .u8 a0_2, .int .i32 a0_3, .int .i32 a0_4]) (t := 130) ?hr ?_; (case hd => rfl); (case hg => rfl); (case hr => first | (go_simp; done) | (go_simp; rfl)); intro gb180 hg w6 hbox hb; have n0_ := Aside0.mk (below_step (by repeat (first | (with_reducible first | exact HB.out | apply below_alloc | apply pw_below_drewN | apply below_drew1) | exact HB.out)) hb); have n1_ := Aside0.mk (hbox); have n2_ := Aside0.mk ((by rw [hg]; exact (below_size (by repeat (first | (with_reducible first | exact HB.out | apply below_alloc | apply pw_below_drewN | apply below_drew1) | exact HB.out))) : w.heap.size ≤ gb180)); have n3_ := Aside0.mk ((by rw [hg]; exact (below_size (by repeat (first | (with_reducible first | exact HB.out | apply below_alloc | apply pw_below_drewN | apply below_drew1) | exact HB.out))) : w.heap.size ≤ gb180)); clear HB; have HB := n0_; have BK180 := n1_; have GW180 := n2_; have GE180 := n3_; clear n0_ n1_ n2_ n3_; clear hb hbox hg; have hcz7_0 : w6.cell? ⟨gb180, 0, none⟩ = some (.int .u8 a0_0) := (blk_cell BK180.out 0).trans rfl; have hcz7_1 : w6.cell? ⟨gb180, 1, none⟩ = some (.int .u8 a0_1) := (blk_cell BK180.out 1).trans rfl; have hcz7_2 : w6.cell? ⟨gb180, 2, none⟩ = some (.int .u8 a0_2) := (blk_cell BK180.out 2).trans rfl; have hcz7_3 : w6.cell? ⟨gb180, 3, none⟩ = some (.int .i32 a0_3) := (blk_cell BK180.out 3).trans rfl; have hcz7_4 : w6.cell? ⟨gb180, 4, none⟩ = some (.int .i32 a0_4) := (blk_cell BK180.out 4).trans rfl; have hfz7_0 := blk_frozen BK180.out 0; have hfz7_1 := blk_frozen BK180.out 1; have hfz7_2 := blk_frozen BK180.out 2; have hfz7_3 := blk_frozen BK180.out 3; have hfz7_4 := blk_frozen BK180.out 4))
        go_ret
        exact ⟨by first | rfl | (simp [errW_none, errW_some] <;> rfl) | (simp [*, errW_none, errW_some] <;> rfl), by repeat (first | (with_reducible first | exact HB.out | apply below_alloc | apply pw_below_drewN | apply below_drew1 | refine below_set ?_ GE180.out) | exact HB.out)⟩
      · rw [if_neg c5] at H
        have c5b0 : decide (a1 < 55296) = false := decide_eq_false c5
        clear c5
        obtain rfl := Option.some.inj H
        go_enter Tryz.func94, Tryz.ntmps94
        go_wp2_with (first | ((with_reducible refine gate_dst (N := 2) rfl ?_); refine box_event ?hg (N := 2) ?hd (cs := #[.int .u8 a0_0, .int .u8 a0_1, .int .u8 a0_2, .int .i32 a0_3, .int .i32 a0_4]) (t := 130) ?hr ?_; (case hd => rfl); (case hg => rfl); (case hr => first | (go_simp; done) | (go_simp; rfl)); intro gb180 hg w8 hbox hb; have n0_ := Aside0.mk (below_step (by repeat (first | (with_reducible first | exact HB.out | apply below_alloc | apply pw_below_drewN | apply below_drew1) | exact HB.out)) hb); have n1_ := Aside0.mk (hbox); have n2_ := Aside0.mk ((by rw [hg]; exact (below_size (by repeat (first | (with_reducible first | exact HB.out | apply below_alloc | apply pw_below_drewN | apply below_drew1) | exact HB.out))) : w.heap.size ≤ gb180)); have n3_ := Aside0.mk ((by rw [hg]; exact (below_size (by repeat (first | (with_reducible first | exact HB.out | apply below_alloc | apply pw_below_drewN | apply below_drew1) | exact HB.out))) : w.heap.size ≤ gb180)); clear HB; have HB := n0_; have BK180 := n1_; have GW180 := n2_; have GE180 := n3_; clear n0_ n1_ n2_ n3_; clear hb hbox hg; have hcz9_0 : w8.cell? ⟨gb180, 0, none⟩ = some (.int .u8 a0_0) := (blk_cell BK180.out 0).trans rfl; have hcz9_1 : w8.cell? ⟨gb180, 1, none⟩ = some (.int .u8 a0_1) := (blk_cell BK180.out 1).trans rfl; have hcz9_2 : w8.cell? ⟨gb180, 2, none⟩ = some (.int .u8 a0_2) := (blk_cell BK180.out 2).trans rfl; have hcz9_3 : w8.cell? ⟨gb180, 3, none⟩ = some (.int .i32 a0_3) := (blk_cell BK180.out 3).trans rfl; have hcz9_4 : w8.cell? ⟨gb180, 4, none⟩ = some (.int .i32 a0_4) := (blk_cell BK180.out 4).trans rfl; have hfz9_0 := blk_frozen BK180.out 0; have hfz9_1 := blk_frozen BK180.out 1; have hfz9_2 := blk_frozen BK180.out 2; have hfz9_3 := blk_frozen BK180.out 3; have hfz9_4 := blk_frozen BK180.out 4))
        go_ret
        exact ⟨by first | rfl | (simp [errW_none, errW_some] <;> rfl) | (simp [*, errW_none, errW_some] <;> rfl), by repeat (first | (with_reducible first | exact HB.out | apply below_alloc | apply pw_below_drewN | apply below_drew1 | refine below_set ?_ GE180.out) | exact HB.out)⟩
    · rw [if_neg c4] at H
      have c4b0 : decide (a1 ≤ a0_4) = false := decide_eq_false c4
      clear c4
      obtain rfl := Option.some.inj H
      go_enter Tryz.func94, Tryz.ntmps94
      go_wp2_with (first | ((with_reducible refine gate_dst (N := 2) rfl ?_); refine box_event ?hg (N := 2) ?hd (cs := #[.int .u8 a0_0, .int .u8 a0_1, .int .u8 a0_2, .int .i32 a0_3, .int .i32 a0_4]) (t := 130) ?hr ?_; (case hd => rfl); (case hg => rfl); (case hr => first | (go_simp; done) | (go_simp; rfl)); intro gb180 hg w10 hbox hb; have n0_ := Aside0.mk (below_step (by repeat (first | (with_reducible first | exact HB.out | apply below_alloc | apply pw_below_drewN | apply below_drew1) | exact HB.out)) hb); have n1_ := Aside0.mk (hbox); have n2_ := Aside0.mk ((by rw [hg]; exact (below_size (by repeat (first | (with_reducible first | exact HB.out | apply below_alloc | apply pw_below_drewN | apply below_drew1) | exact HB.out))) : w.heap.size ≤ gb180)); have n3_ := Aside0.mk ((by rw [hg]; exact (below_size (by repeat (first | (with_reducible first | exact HB.out | apply below_alloc | apply pw_below_drewN | apply below_drew1) | exact HB.out))) : w.heap.size ≤ gb180)); clear HB; have HB := n0_; have BK180 := n1_; have GW180 := n2_; have GE180 := n3_; clear n0_ n1_ n2_ n3_; clear hb hbox hg; have hcz11_0 : w10.cell? ⟨gb180, 0, none⟩ = some (.int .u8 a0_0) := (blk_cell BK180.out 0).trans rfl; have hcz11_1 : w10.cell? ⟨gb180, 1, none⟩ = some (.int .u8 a0_1) := (blk_cell BK180.out 1).trans rfl; have hcz11_2 : w10.cell? ⟨gb180, 2, none⟩ = some (.int .u8 a0_2) := (blk_cell BK180.out 2).trans rfl; have hcz11_3 : w10.cell? ⟨gb180, 3, none⟩ = some (.int .i32 a0_3) := (blk_cell BK180.out 3).trans rfl; have hcz11_4 : w10.cell? ⟨gb180, 4, none⟩ = some (.int .i32 a0_4) := (blk_cell BK180.out 4).trans rfl; have hfz11_0 := blk_frozen BK180.out 0; have hfz11_1 := blk_frozen BK180.out 1; have hfz11_2 := blk_frozen BK180.out 2; have hfz11_3 := blk_frozen BK180.out 3; have hfz11_4 := blk_frozen BK180.out 4))
      go_ret
      exact ⟨by first | rfl | (simp [errW_none, errW_some] <;> rfl) | (simp [*, errW_none, errW_some] <;> rfl), by repeat (first | (with_reducible first | exact HB.out | apply below_alloc | apply pw_below_drewN | apply below_drew1 | refine below_set ?_ GE180.out) | exact HB.out)⟩
  · rw [if_neg c3] at H
    have c3b0 : decide (a0_3 ≤ a1) = false := decide_eq_false c3
    clear c3
    obtain rfl := Option.some.inj H
    go_enter Tryz.func94, Tryz.ntmps94
    go_wp2_with (first | ((with_reducible refine gate_dst (N := 2) rfl ?_); refine box_event ?hg (N := 2) ?hd (cs := #[.int .u8 a0_0, .int .u8 a0_1, .int .u8 a0_2, .int .i32 a0_3, .int .i32 a0_4]) (t := 130) ?hr ?_; (case hd => rfl); (case hg => rfl); (case hr => first | (go_simp; done) | (go_simp; rfl)); intro gb180 hg w12 hbox hb; have n0_ := Aside0.mk (below_step (by repeat (first | (with_reducible first | exact HB.out | apply below_alloc | apply pw_below_drewN | apply below_drew1) | exact HB.out)) hb); have n1_ := Aside0.mk (hbox); have n2_ := Aside0.mk ((by rw [hg]; exact (below_size (by repeat (first | (with_reducible first | exact HB.out | apply below_alloc | apply pw_below_drewN | apply below_drew1) | exact HB.out))) : w.heap.size ≤ gb180)); have n3_ := Aside0.mk ((by rw [hg]; exact (below_size (by repeat (first | (with_reducible first | exact HB.out | apply below_alloc | apply pw_below_drewN | apply below_drew1) | exact HB.out))) : w.heap.size ≤ gb180)); clear HB; have HB := n0_; have BK180 := n1_; have GW180 := n2_; have GE180 := n3_; clear n0_ n1_ n2_ n3_; clear hb hbox hg; have hcz13_0 : w12.cell? ⟨gb180, 0, none⟩ = some (.int .u8 a0_0) := (blk_cell BK180.out 0).trans rfl; have hcz13_1 : w12.cell? ⟨gb180, 1, none⟩ = some (.int .u8 a0_1) := (blk_cell BK180.out 1).trans rfl; have hcz13_2 : w12.cell? ⟨gb180, 2, none⟩ = some (.int .u8 a0_2) := (blk_cell BK180.out 2).trans rfl; have hcz13_3 : w12.cell? ⟨gb180, 3, none⟩ = some (.int .i32 a0_3) := (blk_cell BK180.out 3).trans rfl; have hcz13_4 : w12.cell? ⟨gb180, 4, none⟩ = some (.int .i32 a0_4) := (blk_cell BK180.out 4).trans rfl; have hfz13_0 := blk_frozen BK180.out 0; have hfz13_1 := blk_frozen BK180.out 1; have hfz13_2 := blk_frozen BK180.out 2; have hfz13_3 := blk_frozen BK180.out 3; have hfz13_4 := blk_frozen BK180.out 4))
    go_ret
    exact ⟨by first | rfl | (simp [errW_none, errW_some] <;> rfl) | (simp [*, errW_none, errW_some] <;> rfl), by repeat (first | (with_reducible first | exact HB.out | apply below_alloc | apply pw_below_drewN | apply below_drew1 | refine below_set ?_ GE180.out) | exact HB.out)⟩

-- NOT PRINTED: function 67 (utf8_Encode)

-- NOT PRINTED: function 42 (article_badByte)

-- NOT PRINTED: function 17 (article_CheckBody)

-- NOT PRINTED: function 49 (strings_Builder_Len)

-- NOT PRINTED: function 117 (ascii_Printable)

-- NOT PRINTED: function 119 (field_some)

-- NOT PRINTED: function 89 (field_Field_Check)

-- NOT PRINTED: function 64 (field_Field_Fold)

-- NOT PRINTED: function 40 (field_Print)

-- NOT PRINTED: function 16 (article_Print)

-- NOT PRINTED: function 48 (article_Lines)

-- NOT PRINTED: function 21 (article_Quote)

-- NOT PRINTED: function 76 (strings_trimLeftByte)

-- NOT PRINTED: function 77 (strings_makeASCIISet)

-- NOT PRINTED: function 102 (strings_asciiSet_contains)

-- NOT PRINTED: function 78 (strings_trimLeftASCII)

-- NOT PRINTED: function 126 (utf8_decodeRuneInStringSlow)

-- NOT PRINTED: function 103 (utf8_DecodeRuneInString)

-- NOT PRINTED: function 142 (utf8_ValidRune)

-- NOT PRINTED: function 127 (strings_IndexRune)

-- NOT PRINTED: function 104 (strings_ContainsRune)

-- NOT PRINTED: function 79 (strings_trimLeftUnicode)

-- NOT PRINTED: function 52 (strings_TrimLeft)

/-! ### stringslite_HasPrefix: function 83 -/
/-! ### stringslite_TrimPrefix: function 80 -/
/-! ### strings_TrimPrefix: function 53 -/
-- NOT PRINTED: function 24 (article_Level)

-- NOT PRINTED: function 39 (article_Count)

-- NOT PRINTED: function 14 (bulletinlaw15_known)

/-! ### bulletinlaw15_same: function 15 -/
mutual
def bulletinlaw15_same.j0 : Nat → Bool → List (S76) → ByteArray → List (S78) → ByteArray → Option (Bool)
  | 0, _, _, _, _, _ => none
  | k + 1, x19, x188000, x188001, x189000, x189001 => if x19 = true then (some false) else (bulletinlaw15_same.l0 k 0 x188000 x188001 x189000 x189001)
def bulletinlaw15_same.l0 : Nat → Int → List (S76) → ByteArray → List (S78) → ByteArray → Option (Bool)
  | 0, _, _, _, _, _ => none
  | k + 1, x5, x188000, x188001, x189000, x189001 => if x5 < (x188000.length : Int) then (if 0 ≤ x5 then (if x5 < (x189000.length : Int) then (if ((rd_T76 x188000 x5).f0).toList = ((rd_T78 x189000 x5).f0).toList then (if ((rd_T76 x188000 x5).f1).toList = ((rd_T78 x189000 x5).f1).toList then (bulletinlaw15_same.l0 k (wrap64 (x5 + 1)) x188000 x188001 x189000 x189001) else (some false)) else (some false)) else (none)) else (none)) else (some true)
end
def bulletinlaw15_same.f (k : Nat) (l0_0 : List (S76)) (a0_1 : ByteArray) (l1_0 : List (S78)) (a1_1 : ByteArray) : Option (Bool) := if (l0_0.length : Int) = (l1_0.length : Int) then (bulletinlaw15_same.j0 k (a0_1.toList != a1_1.toList) l0_0 a0_1 l1_0 a1_1) else (bulletinlaw15_same.j0 k true l0_0 a0_1 l1_0 a1_1)
set_option maxHeartbeats 8000000 in
set_option maxRecDepth 100000 in
theorem bulletinlaw15_same.calls (k : Nat) (A0_0 : Option Addr) (c0_0 : Nat) (l0_0 : List (S76)) (a0_1 : ByteArray) (A1_0 : Option Addr) (c1_0 : Nat) (l1_0 : List (S78)) (a1_1 : ByteArray) (r : Bool) (w : World) (hr0_0 : Kd.C k76 w A0_0 l0_0.length l0_0) (hc0_0 : l0_0.length ≤ c0_0) (hr1_0 : Kd.C k78 w A1_0 l1_0.length l1_0) (hc1_0 : l1_0.length ≤ c1_0) (h : bulletinlaw15_same.f k l0_0 a0_1 l1_0 a1_1 = some r) :
    Calls Tryz.prog 15 #[.agg #[.slice A0_0 l0_0.length c0_0, .string a0_1], .agg #[.slice A1_0 l1_0.length c1_0, .string a1_1]] w fun e w' => e = .returned (.bool r) ∧ Below w.heap.size w w' := by
  have hu25 := Tryz.underlying25
  have hu31 := Tryz.underlying31
  have HR0_0 := Aside0.mk hr0_0
  have HC0_0 := Aside0.mk hc0_0
  clear hr0_0 hc0_0
  have HR1_0 := Aside0.mk hr1_0
  have HC1_0 := Aside0.mk hc1_0
  clear hr1_0 hc1_0
  have HB := Aside0.mk (Below.refl w.heap.size w)
  have H : (if (l0_0.length : Int) = (l1_0.length : Int) then (bulletinlaw15_same.j0 k (a0_1.toList != a1_1.toList) l0_0 a0_1 l1_0 a1_1) else (bulletinlaw15_same.j0 k true l0_0 a0_1 l1_0 a1_1)) = some r := h
  clear h
  have HC3 := Aside0.mk H
  clear H
  go_enter Tryz.func15, Tryz.ntmps15
  go_upto_region 1 with (first | ((with_reducible refine gate_dst (N := 2) rfl ?_); refine box_event ?hg (N := 2) ?hd (cs := #[.slice A0_0 l0_0.length c0_0, .string a0_1]) (t := 25) ?hr ?_; (case hd => rfl); (case hg => rfl); (case hr => first | (go_simp; done) | (go_simp; rfl)); intro gb187 hg w4 hbox hb; have n0_ := Aside0.mk (below_step (by repeat (first | (with_reducible first | exact HB.out | apply below_alloc | apply pw_below_drewN | apply below_drew1) | exact HB.out)) hb); have n1_ := Aside0.mk (hbox); have n2_ := Aside0.mk ((by rw [hg]; exact (below_size (by repeat (first | (with_reducible first | exact HB.out | apply below_alloc | apply pw_below_drewN | apply below_drew1) | exact HB.out))) : w.heap.size ≤ gb187)); have n3_ := Aside0.mk ((by rw [hg]; exact (below_size (by repeat (first | (with_reducible first | exact HB.out | apply below_alloc | apply pw_below_drewN | apply below_drew1) | exact HB.out))) : w.heap.size ≤ gb187)); clear HB; have HB := n0_; have BK187 := n1_; have GW187 := n2_; have GE187 := n3_; clear n0_ n1_ n2_ n3_; clear hb hbox hg) | ((with_reducible refine gate_dst (N := 3) rfl ?_); refine box_event ?hg (N := 3) ?hd (cs := #[.slice A1_0 l1_0.length c1_0, .string a1_1]) (t := 31) ?hr ?_; (case hd => rfl); (case hg => rfl); (case hr => first | (go_simp; done) | (go_simp; rfl)); intro gb188 hg w5 hbox hb; have n0_ := Aside0.mk (blk_below (g := gb187) (o := .cells #[.slice A0_0 l0_0.length c0_0, .string a0_1] 25 (0, 0)) (by (with_reducible repeat (first | refine blk_drewN ?_ _ | refine blk_drew ?_ | refine blk_alloc ?_ _)); exact BK187.out) hb); have n1_ := Aside0.mk (below_step (by repeat (first | (with_reducible first | exact HB.out | apply below_alloc | apply pw_below_drewN | apply below_drew1 | refine below_set ?_ GE187.out) | exact HB.out)) hb); have n2_ := Aside0.mk (hbox); have n3_ := Aside0.mk ((by rw [hg]; exact (below_size (by repeat (first | (with_reducible first | exact HB.out | apply below_alloc | apply pw_below_drewN | apply below_drew1 | refine below_set ?_ GE187.out) | exact HB.out))) : w.heap.size ≤ gb188)); have n4_ := Aside0.mk ((by rw [hg]; exact (below_size (by repeat (first | (with_reducible first | exact HB.out | apply below_alloc | apply pw_below_drewN | apply below_drew1 | refine below_set ?_ GE187.out) | exact HB.out))) : w.heap.size ≤ gb188)); have n5_ := Aside0.mk ((by rw [hg]; exact Nat.ne_of_lt (blk_lt (g := gb187) (o := .cells #[.slice A0_0 l0_0.length c0_0, .string a0_1] 25 (0, 0)) (by (with_reducible repeat (first | refine blk_drewN ?_ _ | refine blk_drew ?_ | refine blk_alloc ?_ _)); exact BK187.out)) : gb187 ≠ gb188)); have n6_ := Aside0.mk ((by rw [hg]; exact Nat.ne_of_gt (blk_lt (g := gb187) (o := .cells #[.slice A0_0 l0_0.length c0_0, .string a0_1] 25 (0, 0)) (by (with_reducible repeat (first | refine blk_drewN ?_ _ | refine blk_drew ?_ | refine blk_alloc ?_ _)); exact BK187.out)) : gb188 ≠ gb187)); clear BK187; clear HB; have BK187 := n0_; have HB := n1_; have BK188 := n2_; have GW188 := n3_; have GE188 := n4_; have NB187_188 := n5_; have NB188_187 := n6_; clear n0_ n1_ n2_ n3_ n4_ n5_ n6_; clear hb hbox hg))
  repeat (go_quiet (first | ((with_reducible refine gate_dst (N := 2) rfl ?_); refine box_event ?hg (N := 2) ?hd (cs := #[.slice A0_0 l0_0.length c0_0, .string a0_1]) (t := 25) ?hr ?_; (case hd => rfl); (case hg => rfl); (case hr => first | (go_simp; done) | (go_simp; rfl)); intro gb187 hg w4 hbox hb; have n0_ := Aside0.mk (below_step (by repeat (first | (with_reducible first | exact HB.out | apply below_alloc | apply pw_below_drewN | apply below_drew1) | exact HB.out)) hb); have n1_ := Aside0.mk (hbox); have n2_ := Aside0.mk ((by rw [hg]; exact (below_size (by repeat (first | (with_reducible first | exact HB.out | apply below_alloc | apply pw_below_drewN | apply below_drew1) | exact HB.out))) : w.heap.size ≤ gb187)); have n3_ := Aside0.mk ((by rw [hg]; exact (below_size (by repeat (first | (with_reducible first | exact HB.out | apply below_alloc | apply pw_below_drewN | apply below_drew1) | exact HB.out))) : w.heap.size ≤ gb187)); clear HB; have HB := n0_; have BK187 := n1_; have GW187 := n2_; have GE187 := n3_; clear n0_ n1_ n2_ n3_; clear hb hbox hg) | ((with_reducible refine gate_dst (N := 3) rfl ?_); refine box_event ?hg (N := 3) ?hd (cs := #[.slice A1_0 l1_0.length c1_0, .string a1_1]) (t := 31) ?hr ?_; (case hd => rfl); (case hg => rfl); (case hr => first | (go_simp; done) | (go_simp; rfl)); intro gb188 hg w5 hbox hb; have n0_ := Aside0.mk (blk_below (g := gb187) (o := .cells #[.slice A0_0 l0_0.length c0_0, .string a0_1] 25 (0, 0)) (by (with_reducible repeat (first | refine blk_drewN ?_ _ | refine blk_drew ?_ | refine blk_alloc ?_ _)); exact BK187.out) hb); have n1_ := Aside0.mk (below_step (by repeat (first | (with_reducible first | exact HB.out | apply below_alloc | apply pw_below_drewN | apply below_drew1 | refine below_set ?_ GE187.out) | exact HB.out)) hb); have n2_ := Aside0.mk (hbox); have n3_ := Aside0.mk ((by rw [hg]; exact (below_size (by repeat (first | (with_reducible first | exact HB.out | apply below_alloc | apply pw_below_drewN | apply below_drew1 | refine below_set ?_ GE187.out) | exact HB.out))) : w.heap.size ≤ gb188)); have n4_ := Aside0.mk ((by rw [hg]; exact (below_size (by repeat (first | (with_reducible first | exact HB.out | apply below_alloc | apply pw_below_drewN | apply below_drew1 | refine below_set ?_ GE187.out) | exact HB.out))) : w.heap.size ≤ gb188)); have n5_ := Aside0.mk ((by rw [hg]; exact Nat.ne_of_lt (blk_lt (g := gb187) (o := .cells #[.slice A0_0 l0_0.length c0_0, .string a0_1] 25 (0, 0)) (by (with_reducible repeat (first | refine blk_drewN ?_ _ | refine blk_drew ?_ | refine blk_alloc ?_ _)); exact BK187.out)) : gb187 ≠ gb188)); have n6_ := Aside0.mk ((by rw [hg]; exact Nat.ne_of_gt (blk_lt (g := gb187) (o := .cells #[.slice A0_0 l0_0.length c0_0, .string a0_1] 25 (0, 0)) (by (with_reducible repeat (first | refine blk_drewN ?_ _ | refine blk_drew ?_ | refine blk_alloc ?_ _)); exact BK187.out)) : gb188 ≠ gb187)); clear BK187; clear HB; have BK187 := n0_; have HB := n1_; have BK188 := n2_; have GW188 := n3_; have GE188 := n4_; have NB187_188 := n5_; have NB188_187 := n6_; clear n0_ n1_ n2_ n3_ n4_ n5_ n6_; clear hb hbox hg)); go_upto_region 1 with (first | ((with_reducible refine gate_dst (N := 2) rfl ?_); refine box_event ?hg (N := 2) ?hd (cs := #[.slice A0_0 l0_0.length c0_0, .string a0_1]) (t := 25) ?hr ?_; (case hd => rfl); (case hg => rfl); (case hr => first | (go_simp; done) | (go_simp; rfl)); intro gb187 hg w4 hbox hb; have n0_ := Aside0.mk (below_step (by repeat (first | (with_reducible first | exact HB.out | apply below_alloc | apply pw_below_drewN | apply below_drew1) | exact HB.out)) hb); have n1_ := Aside0.mk (hbox); have n2_ := Aside0.mk ((by rw [hg]; exact (below_size (by repeat (first | (with_reducible first | exact HB.out | apply below_alloc | apply pw_below_drewN | apply below_drew1) | exact HB.out))) : w.heap.size ≤ gb187)); have n3_ := Aside0.mk ((by rw [hg]; exact (below_size (by repeat (first | (with_reducible first | exact HB.out | apply below_alloc | apply pw_below_drewN | apply below_drew1) | exact HB.out))) : w.heap.size ≤ gb187)); clear HB; have HB := n0_; have BK187 := n1_; have GW187 := n2_; have GE187 := n3_; clear n0_ n1_ n2_ n3_; clear hb hbox hg) | ((with_reducible refine gate_dst (N := 3) rfl ?_); refine box_event ?hg (N := 3) ?hd (cs := #[.slice A1_0 l1_0.length c1_0, .string a1_1]) (t := 31) ?hr ?_; (case hd => rfl); (case hg => rfl); (case hr => first | (go_simp; done) | (go_simp; rfl)); intro gb188 hg w5 hbox hb; have n0_ := Aside0.mk (blk_below (g := gb187) (o := .cells #[.slice A0_0 l0_0.length c0_0, .string a0_1] 25 (0, 0)) (by (with_reducible repeat (first | refine blk_drewN ?_ _ | refine blk_drew ?_ | refine blk_alloc ?_ _)); exact BK187.out) hb); have n1_ := Aside0.mk (below_step (by repeat (first | (with_reducible first | exact HB.out | apply below_alloc | apply pw_below_drewN | apply below_drew1 | refine below_set ?_ GE187.out) | exact HB.out)) hb); have n2_ := Aside0.mk (hbox); have n3_ := Aside0.mk ((by rw [hg]; exact (below_size (by repeat (first | (with_reducible first | exact HB.out | apply below_alloc | apply pw_below_drewN | apply below_drew1 | refine below_set ?_ GE187.out) | exact HB.out))) : w.heap.size ≤ gb188)); have n4_ := Aside0.mk ((by rw [hg]; exact (below_size (by repeat (first | (with_reducible first | exact HB.out | apply below_alloc | apply pw_below_drewN | apply below_drew1 | refine below_set ?_ GE187.out) | exact HB.out))) : w.heap.size ≤ gb188)); have n5_ := Aside0.mk ((by rw [hg]; exact Nat.ne_of_lt (blk_lt (g := gb187) (o := .cells #[.slice A0_0 l0_0.length c0_0, .string a0_1] 25 (0, 0)) (by (with_reducible repeat (first | refine blk_drewN ?_ _ | refine blk_drew ?_ | refine blk_alloc ?_ _)); exact BK187.out)) : gb187 ≠ gb188)); have n6_ := Aside0.mk ((by rw [hg]; exact Nat.ne_of_gt (blk_lt (g := gb187) (o := .cells #[.slice A0_0 l0_0.length c0_0, .string a0_1] 25 (0, 0)) (by (with_reducible repeat (first | refine blk_drewN ?_ _ | refine blk_drew ?_ | refine blk_alloc ?_ _)); exact BK187.out)) : gb188 ≠ gb187)); clear BK187; clear HB; have BK187 := n0_; have HB := n1_; have BK188 := n2_; have GW188 := n3_; have GE188 := n4_; have NB187_188 := n5_; have NB188_187 := n6_; clear n0_ n1_ n2_ n3_ n4_ n5_ n6_; clear hb hbox hg)))
  (try simp only [Act.put, List.setIfInBounds_toArray, List.set_cons_zero, List.set_cons_succ])
  go_cut [19] (fun v19 wc => ∃ (kq : Nat) (x19_2 : Bool), v19 = .bool x19_2 ∧ Aside0 (bulletinlaw15_same.j0 kq x19_2 l0_0 a0_1 l1_0 a1_1 = some r) ∧ Aside0 (kq ≤ k) ∧ Aside0 (wc.heap[gb187]? = some (.cells #[(.slice A0_0 l0_0.length c0_0), .string a0_1] 25 (0, 0))) ∧ Aside0 (wc.heap[gb188]? = some (.cells #[(.slice A1_0 l1_0.length c1_0), .string a1_1] 31 (0, 0))) ∧ Aside0 (Below w.heap.size w wc))
  case first =>
    have H := HC3.out
    clear HC3
    by_cases c6 : (l0_0.length : Int) = (l1_0.length : Int)
    · rw [if_pos c6] at H
      have c6b0 : ((l0_0.length : Int) == (l1_0.length : Int)) = true := beq_iff_eq.mpr c6
      have c6b1 : ((l0_0.length : Int) != (l1_0.length : Int)) = false := bne_eq_false_iff_eq.mpr c6
      have c6b2 : (l0_0.length == l1_0.length) = true := by first | simpa using c6 | (simp at c6 ⊢; omega)
      clear c6
      (first | rw [c6b0] | (simp only [i64_w, i32_w]; rw [c6b0]) | skip)
      have H' := Aside0.mk H
      clear H
      have hnb7 := NB187_188.out
      have hnc7 := NB188_187.out
      have hcz8_0 : w5.cell? ⟨gb187, 0, none⟩ = some (.slice A0_0 l0_0.length c0_0) := (blk_cell BK187.out 0).trans rfl
      have hcz8_1 : w5.cell? ⟨gb187, 1, none⟩ = some (.string a0_1) := (blk_cell BK187.out 1).trans rfl
      have hfz8_0 := blk_frozen BK187.out 0
      have hfz8_1 := blk_frozen BK187.out 1
      have hcz9_0 : w5.cell? ⟨gb188, 0, none⟩ = some (.slice A1_0 l1_0.length c1_0) := (blk_cell BK188.out 0).trans rfl
      have hcz9_1 : w5.cell? ⟨gb188, 1, none⟩ = some (.string a1_1) := (blk_cell BK188.out 1).trans rfl
      have hfz9_0 := blk_frozen BK188.out 0
      have hfz9_1 := blk_frozen BK188.out 1
      go_wp2
      repeat (go_quiet (fail); try go_wp2)
      go_meet
      case rel => exact ⟨_, ((a0_1.toList != a1_1.toList)), (by first | rfl | (simp; done) | (simp [*]; done)), H', ⟨by first | omega | exact Nat.le_refl _⟩, ⟨by (with_reducible repeat (first | refine blk_drewN ?_ _ | refine blk_drew ?_ | refine blk_alloc ?_ _)); exact BK187.out⟩, ⟨by (with_reducible repeat (first | refine blk_drewN ?_ _ | refine blk_drew ?_ | refine blk_alloc ?_ _)); exact BK188.out⟩, ⟨by repeat (first | (with_reducible first | exact HB.out | apply below_alloc | apply pw_below_drewN | apply below_drew1 | refine below_set ?_ GE187.out | refine below_set ?_ GE188.out) | exact HB.out)⟩⟩
    · rw [if_neg c6] at H
      have c6b0 : ((l0_0.length : Int) == (l1_0.length : Int)) = false := beq_eq_false_iff_ne.mpr c6
      have c6b1 : ((l0_0.length : Int) != (l1_0.length : Int)) = true := bne_iff_ne.mpr c6
      have c6b2 : (l0_0.length == l1_0.length) = false := by first | simpa using c6 | (simp at c6 ⊢; omega)
      (first | rw [c6b0] | (simp only [i64_w, i32_w]; rw [c6b0]) | skip)
      have H' := Aside0.mk H
      clear H
      have hnb10 := NB187_188.out
      have hnc10 := NB188_187.out
      have hcz11_0 : w5.cell? ⟨gb187, 0, none⟩ = some (.slice A0_0 l0_0.length c0_0) := (blk_cell BK187.out 0).trans rfl
      have hcz11_1 : w5.cell? ⟨gb187, 1, none⟩ = some (.string a0_1) := (blk_cell BK187.out 1).trans rfl
      have hfz11_0 := blk_frozen BK187.out 0
      have hfz11_1 := blk_frozen BK187.out 1
      have hcz12_0 : w5.cell? ⟨gb188, 0, none⟩ = some (.slice A1_0 l1_0.length c1_0) := (blk_cell BK188.out 0).trans rfl
      have hcz12_1 : w5.cell? ⟨gb188, 1, none⟩ = some (.string a1_1) := (blk_cell BK188.out 1).trans rfl
      have hfz12_0 := blk_frozen BK188.out 0
      have hfz12_1 := blk_frozen BK188.out 1
      go_wp2
      repeat (go_quiet (fail); try go_wp2)
      go_meet
      case rel => exact ⟨_, (true), (by first | rfl | (simp; done) | (simp [*]; done)), H', ⟨by first | omega | exact Nat.le_refl _⟩, ⟨by (with_reducible repeat (first | refine blk_drewN ?_ _ | refine blk_drew ?_ | refine blk_alloc ?_ _)); exact BK187.out⟩, ⟨by (with_reducible repeat (first | refine blk_drewN ?_ _ | refine blk_drew ?_ | refine blk_alloc ?_ _)); exact BK188.out⟩, ⟨by repeat (first | (with_reducible first | exact HB.out | apply below_alloc | apply pw_below_drewN | apply below_drew1 | refine below_set ?_ GE187.out | refine below_set ?_ GE188.out) | exact HB.out)⟩⟩
  case rest =>
    clear HC3
    try clear c1
    try clear p2
    try clear c6
    try clear c6b0
    try clear c6b1
    try clear c6b2
    try clear c7
    try clear c10
    try clear hcz11_0
    try clear hcz11_1
    try clear hcz12_0
    try clear hcz12_1
    try clear hcz8_0
    try clear hcz8_1
    try clear hcz9_0
    try clear hcz9_1
    try clear hfz11_0
    try clear hfz11_1
    try clear hfz12_0
    try clear hfz12_1
    try clear hfz8_0
    try clear hfz8_1
    try clear hfz9_0
    try clear hfz9_1
    obtain ⟨kq, x19_2, rfl, HA, HJ2, BK187, BK188, HB⟩ := hcut
    cases kq with
    | zero => exact absurd HA.out (by simp [bulletinlaw15_same.j0])
    | succ kj2 =>
      have H := HA.out
      clear HA
      simp only [bulletinlaw15_same.j0] at H
      by_cases c13 : x19_2 = true
      · subst c13
        have H1 : (some false) = some r := by rw [if_pos rfl] at H; exact H
        clear H
        have H := H1
        clear H1
        obtain rfl := Option.some.inj H
        go_wp2
        repeat (go_quiet (fail); try go_wp2)
        go_ret
        exact ⟨by first | rfl | (simp [errW_none, errW_some] <;> rfl) | (simp [*, errW_none, errW_some] <;> rfl), by repeat (first | (with_reducible first | exact HB.out | apply below_alloc | apply pw_below_drewN | apply below_drew1 | refine below_set ?_ GE187.out | refine below_set ?_ GE188.out) | exact HB.out)⟩
      · replace c13 := Bool.eq_false_iff.mpr c13
        subst c13
        have H1 : (bulletinlaw15_same.l0 kj2 0 l0_0 a0_1 l1_0 a1_1) = some r := by rw [if_neg (show ¬ (false = true) by decide)] at H; exact H
        clear H
        have H := H1
        clear H1
        have H' := Aside0.mk H
        clear H
        go_wp2
        repeat (go_quiet (fail); try go_wp2)
        go_loopg [5] kj2 (fun kq v5 w' => ∃ (x5_2 : Int), v5 = .int .i64 x5_2 ∧ Aside0 (bulletinlaw15_same.l0 kq x5_2 l0_0 a0_1 l1_0 a1_1 = some r) ∧ Aside0 (kq ≤ kj2) ∧ Aside0 (w'.heap[gb187]? = some (.cells #[(.slice A0_0 l0_0.length c0_0), .string a0_1] 25 (0, 0))) ∧ Aside0 (w'.heap[gb188]? = some (.cells #[(.slice A1_0 l1_0.length c1_0), .string a1_1] 31 (0, 0))) ∧ Aside0 (Below w.heap.size w w'))
        case atStart => exact ⟨(0), (by first | rfl | (simp; done) | (simp [*]; done)), H', ⟨Nat.le_refl _⟩, ⟨by (with_reducible repeat (first | refine blk_drewN ?_ _ | refine blk_drew ?_ | refine blk_alloc ?_ _)); exact BK187.out⟩, ⟨by (with_reducible repeat (first | refine blk_drewN ?_ _ | refine blk_drew ?_ | refine blk_alloc ?_ _)); exact BK188.out⟩, ⟨by repeat (first | (with_reducible first | exact HB.out | apply below_alloc | apply pw_below_drewN | apply below_drew1 | refine below_set ?_ GE187.out | refine below_set ?_ GE188.out) | exact HB.out)⟩⟩
        case round =>
          clear H'
          try clear c1
          try clear p2
          try clear c6
          try clear c6b0
          try clear c6b1
          try clear c6b2
          try clear c7
          try clear c10
          try clear c13
          try clear hcz11_0
          try clear hcz11_1
          try clear hcz12_0
          try clear hcz12_1
          try clear hcz8_0
          try clear hcz8_1
          try clear hcz9_0
          try clear hcz9_1
          try clear hfz11_0
          try clear hfz11_1
          try clear hfz12_0
          try clear hfz12_1
          try clear hfz8_0
          try clear hfz8_1
          try clear hfz9_0
          try clear hfz9_1
          try clear p2
          obtain ⟨x5_2, rfl, HA, HK2, BK187, BK188, HB⟩ := hrel
          cases gk with
          | zero => exact absurd HA.out (by simp [bulletinlaw15_same.l0])
          | succ k2 =>
            have H := HA.out
            clear HA
            simp only [bulletinlaw15_same.l0] at H
            by_cases c14 : x5_2 < (l0_0.length : Int)
            · rw [if_pos c14] at H
              have c14b0 : decide (x5_2 < (l0_0.length : Int)) = true := decide_eq_true c14
              clear c14
              by_cases c15 : 0 ≤ x5_2
              · rw [if_pos c15] at H
                have c15b0 : decide (0 ≤ x5_2) = true := decide_eq_true c15
                clear c15
                by_cases c16 : x5_2 < (l1_0.length : Int)
                · rw [if_pos c16] at H
                  have c16b0 : decide (x5_2 < (l1_0.length : Int)) = true := decide_eq_true c16
                  clear c16
                  by_cases c17 : ((rd_T76 l0_0 x5_2).f0).toList = ((rd_T78 l1_0 x5_2).f0).toList
                  · rw [if_pos c17] at H
                    have c17b0 : (((rd_T76 l0_0 x5_2).f0).toList == ((rd_T78 l1_0 x5_2).f0).toList) = true := beq_iff_eq.mpr c17
                    have c17b1 : (((rd_T76 l0_0 x5_2).f0).toList != ((rd_T78 l1_0 x5_2).f0).toList) = false := bne_eq_false_iff_eq.mpr c17
                    clear c17
                    by_cases c18 : ((rd_T76 l0_0 x5_2).f1).toList = ((rd_T78 l1_0 x5_2).f1).toList
                    · rw [if_pos c18] at H
                      have c18b0 : (((rd_T76 l0_0 x5_2).f1).toList == ((rd_T78 l1_0 x5_2).f1).toList) = true := beq_iff_eq.mpr c18
                      have c18b1 : (((rd_T76 l0_0 x5_2).f1).toList != ((rd_T78 l1_0 x5_2).f1).toList) = false := bne_eq_false_iff_eq.mpr c18
                      clear c18
                      have H' := Aside0.mk H
                      clear H
                      have hnb19 := NB187_188.out
                      have hnc19 := NB188_187.out
                      have hcz20_0 : wr.cell? ⟨gb187, 0, none⟩ = some (.slice A0_0 l0_0.length c0_0) := (blk_cell BK187.out 0).trans rfl
                      have hcz20_1 : wr.cell? ⟨gb187, 1, none⟩ = some (.string a0_1) := (blk_cell BK187.out 1).trans rfl
                      have hfz20_0 := blk_frozen BK187.out 0
                      have hfz20_1 := blk_frozen BK187.out 1
                      have p189 : 0 ≤ (x5_2 : Int) := of_decide_eq_true (by first | (with_reducible assumption) | assumption)
                      have q189 : x5_2 < (l0_0.length : Int) := of_decide_eq_true (by first | (with_reducible assumption) | assumption)
                      obtain ⟨ad189, e189, hx189_0, hx189_1⟩ := at_T76 HR0_0.out x5_2 p189 q189
                      cases e189
                      replace hx189_0 := (HB.out.cell (World.block_lt_of_cell? w _ hx189_0)).trans hx189_0
                      replace hx189_1 := (HB.out.cell (World.block_lt_of_cell? w _ hx189_1)).trans hx189_1
                      replace p189 := eq_true p189
                      replace q189 := eq_true q189
                      have hcz21_0 : wr.cell? ⟨gb188, 0, none⟩ = some (.slice A1_0 l1_0.length c1_0) := (blk_cell BK188.out 0).trans rfl
                      have hcz21_1 : wr.cell? ⟨gb188, 1, none⟩ = some (.string a1_1) := (blk_cell BK188.out 1).trans rfl
                      have hfz21_0 := blk_frozen BK188.out 0
                      have hfz21_1 := blk_frozen BK188.out 1
                      have p190 : 0 ≤ (x5_2 : Int) := of_decide_eq_true (by first | (with_reducible assumption) | assumption)
                      have q190 : x5_2 < (l1_0.length : Int) := of_decide_eq_true (by first | (with_reducible assumption) | assumption)
                      obtain ⟨ad190, e190, hx190_0, hx190_1⟩ := at_T78 HR1_0.out x5_2 p190 q190
                      cases e190
                      replace hx190_0 := (HB.out.cell (World.block_lt_of_cell? w _ hx190_0)).trans hx190_0
                      replace hx190_1 := (HB.out.cell (World.block_lt_of_cell? w _ hx190_1)).trans hx190_1
                      replace p190 := eq_true p190
                      replace q190 := eq_true q190
                      have p191 : 0 ≤ (x5_2 : Int) := of_decide_eq_true (by first | (with_reducible assumption) | assumption)
                      have q191 : x5_2 < (l0_0.length : Int) := of_decide_eq_true (by first | (with_reducible assumption) | assumption)
                      obtain ⟨ad191, e191, hx191_0, hx191_1⟩ := at_T76 HR0_0.out x5_2 p191 q191
                      obtain rfl : ad189 = ad191 := (by injection e191)
                      replace hx191_0 := (HB.out.cell (World.block_lt_of_cell? w _ hx191_0)).trans hx191_0
                      replace hx191_1 := (HB.out.cell (World.block_lt_of_cell? w _ hx191_1)).trans hx191_1
                      replace p191 := eq_true p191
                      replace q191 := eq_true q191
                      have p192 : 0 ≤ (x5_2 : Int) := of_decide_eq_true (by first | (with_reducible assumption) | assumption)
                      have q192 : x5_2 < (l1_0.length : Int) := of_decide_eq_true (by first | (with_reducible assumption) | assumption)
                      obtain ⟨ad192, e192, hx192_0, hx192_1⟩ := at_T78 HR1_0.out x5_2 p192 q192
                      obtain rfl : ad190 = ad192 := (by injection e192)
                      replace hx192_0 := (HB.out.cell (World.block_lt_of_cell? w _ hx192_0)).trans hx192_0
                      replace hx192_1 := (HB.out.cell (World.block_lt_of_cell? w _ hx192_1)).trans hx192_1
                      replace p192 := eq_true p192
                      replace q192 := eq_true q192
                      go_wp2
                      repeat (go_quiet (fail); try go_wp2)
                      go_roundg k2
                      case measure => have := HJ2.out; have := HK2.out; omega
                      case rel => exact ⟨(wrap64 (x5_2 + 1)), (by first | rfl | (simp; done) | (simp [*]; done)), H', ⟨by have := HJ2.out; have := HK2.out; omega⟩, ⟨by (with_reducible repeat (first | refine blk_drewN ?_ _ | refine blk_drew ?_ | refine blk_alloc ?_ _)); exact BK187.out⟩, ⟨by (with_reducible repeat (first | refine blk_drewN ?_ _ | refine blk_drew ?_ | refine blk_alloc ?_ _)); exact BK188.out⟩, ⟨by repeat (first | (with_reducible first | exact HB.out | apply below_alloc | apply pw_below_drewN | apply below_drew1 | refine below_set ?_ GE187.out | refine below_set ?_ GE188.out) | exact HB.out)⟩⟩
                    · rw [if_neg c18] at H
                      have c18b0 : (((rd_T76 l0_0 x5_2).f1).toList == ((rd_T78 l1_0 x5_2).f1).toList) = false := beq_eq_false_iff_ne.mpr c18
                      have c18b1 : (((rd_T76 l0_0 x5_2).f1).toList != ((rd_T78 l1_0 x5_2).f1).toList) = true := bne_iff_ne.mpr c18
                      obtain rfl := Option.some.inj H
                      have hnb22 := NB187_188.out
                      have hnc22 := NB188_187.out
                      have hcz23_0 : wr.cell? ⟨gb187, 0, none⟩ = some (.slice A0_0 l0_0.length c0_0) := (blk_cell BK187.out 0).trans rfl
                      have hcz23_1 : wr.cell? ⟨gb187, 1, none⟩ = some (.string a0_1) := (blk_cell BK187.out 1).trans rfl
                      have hfz23_0 := blk_frozen BK187.out 0
                      have hfz23_1 := blk_frozen BK187.out 1
                      have p189 : 0 ≤ (x5_2 : Int) := of_decide_eq_true (by first | (with_reducible assumption) | assumption)
                      have q189 : x5_2 < (l0_0.length : Int) := of_decide_eq_true (by first | (with_reducible assumption) | assumption)
                      obtain ⟨ad189, e189, hx189_0, hx189_1⟩ := at_T76 HR0_0.out x5_2 p189 q189
                      cases e189
                      replace hx189_0 := (HB.out.cell (World.block_lt_of_cell? w _ hx189_0)).trans hx189_0
                      replace hx189_1 := (HB.out.cell (World.block_lt_of_cell? w _ hx189_1)).trans hx189_1
                      replace p189 := eq_true p189
                      replace q189 := eq_true q189
                      have hcz24_0 : wr.cell? ⟨gb188, 0, none⟩ = some (.slice A1_0 l1_0.length c1_0) := (blk_cell BK188.out 0).trans rfl
                      have hcz24_1 : wr.cell? ⟨gb188, 1, none⟩ = some (.string a1_1) := (blk_cell BK188.out 1).trans rfl
                      have hfz24_0 := blk_frozen BK188.out 0
                      have hfz24_1 := blk_frozen BK188.out 1
                      have p190 : 0 ≤ (x5_2 : Int) := of_decide_eq_true (by first | (with_reducible assumption) | assumption)
                      have q190 : x5_2 < (l1_0.length : Int) := of_decide_eq_true (by first | (with_reducible assumption) | assumption)
                      obtain ⟨ad190, e190, hx190_0, hx190_1⟩ := at_T78 HR1_0.out x5_2 p190 q190
                      cases e190
                      replace hx190_0 := (HB.out.cell (World.block_lt_of_cell? w _ hx190_0)).trans hx190_0
                      replace hx190_1 := (HB.out.cell (World.block_lt_of_cell? w _ hx190_1)).trans hx190_1
                      replace p190 := eq_true p190
                      replace q190 := eq_true q190
                      have p191 : 0 ≤ (x5_2 : Int) := of_decide_eq_true (by first | (with_reducible assumption) | assumption)
                      have q191 : x5_2 < (l0_0.length : Int) := of_decide_eq_true (by first | (with_reducible assumption) | assumption)
                      obtain ⟨ad191, e191, hx191_0, hx191_1⟩ := at_T76 HR0_0.out x5_2 p191 q191
                      obtain rfl : ad189 = ad191 := (by injection e191)
                      replace hx191_0 := (HB.out.cell (World.block_lt_of_cell? w _ hx191_0)).trans hx191_0
                      replace hx191_1 := (HB.out.cell (World.block_lt_of_cell? w _ hx191_1)).trans hx191_1
                      replace p191 := eq_true p191
                      replace q191 := eq_true q191
                      have p192 : 0 ≤ (x5_2 : Int) := of_decide_eq_true (by first | (with_reducible assumption) | assumption)
                      have q192 : x5_2 < (l1_0.length : Int) := of_decide_eq_true (by first | (with_reducible assumption) | assumption)
                      obtain ⟨ad192, e192, hx192_0, hx192_1⟩ := at_T78 HR1_0.out x5_2 p192 q192
                      obtain rfl : ad190 = ad192 := (by injection e192)
                      replace hx192_0 := (HB.out.cell (World.block_lt_of_cell? w _ hx192_0)).trans hx192_0
                      replace hx192_1 := (HB.out.cell (World.block_lt_of_cell? w _ hx192_1)).trans hx192_1
                      replace p192 := eq_true p192
                      replace q192 := eq_true q192
                      go_wp2
                      repeat (go_quiet (fail); try go_wp2)
                      go_ret
                      exact ⟨by first | rfl | (simp [errW_none, errW_some] <;> rfl) | (simp [*, errW_none, errW_some] <;> rfl), by repeat (first | (with_reducible first | exact HB.out | apply below_alloc | apply pw_below_drewN | apply below_drew1 | refine below_set ?_ GE187.out | refine below_set ?_ GE188.out) | exact HB.out)⟩
                  · rw [if_neg c17] at H
                    have c17b0 : (((rd_T76 l0_0 x5_2).f0).toList == ((rd_T78 l1_0 x5_2).f0).toList) = false := beq_eq_false_iff_ne.mpr c17
                    have c17b1 : (((rd_T76 l0_0 x5_2).f0).toList != ((rd_T78 l1_0 x5_2).f0).toList) = true := bne_iff_ne.mpr c17
                    obtain rfl := Option.some.inj H
                    have hnb25 := NB187_188.out
                    have hnc25 := NB188_187.out
                    have hcz26_0 : wr.cell? ⟨gb187, 0, none⟩ = some (.slice A0_0 l0_0.length c0_0) := (blk_cell BK187.out 0).trans rfl
                    have hcz26_1 : wr.cell? ⟨gb187, 1, none⟩ = some (.string a0_1) := (blk_cell BK187.out 1).trans rfl
                    have hfz26_0 := blk_frozen BK187.out 0
                    have hfz26_1 := blk_frozen BK187.out 1
                    have p189 : 0 ≤ (x5_2 : Int) := of_decide_eq_true (by first | (with_reducible assumption) | assumption)
                    have q189 : x5_2 < (l0_0.length : Int) := of_decide_eq_true (by first | (with_reducible assumption) | assumption)
                    obtain ⟨ad189, e189, hx189_0, hx189_1⟩ := at_T76 HR0_0.out x5_2 p189 q189
                    cases e189
                    replace hx189_0 := (HB.out.cell (World.block_lt_of_cell? w _ hx189_0)).trans hx189_0
                    replace hx189_1 := (HB.out.cell (World.block_lt_of_cell? w _ hx189_1)).trans hx189_1
                    replace p189 := eq_true p189
                    replace q189 := eq_true q189
                    have hcz27_0 : wr.cell? ⟨gb188, 0, none⟩ = some (.slice A1_0 l1_0.length c1_0) := (blk_cell BK188.out 0).trans rfl
                    have hcz27_1 : wr.cell? ⟨gb188, 1, none⟩ = some (.string a1_1) := (blk_cell BK188.out 1).trans rfl
                    have hfz27_0 := blk_frozen BK188.out 0
                    have hfz27_1 := blk_frozen BK188.out 1
                    have p190 : 0 ≤ (x5_2 : Int) := of_decide_eq_true (by first | (with_reducible assumption) | assumption)
                    have q190 : x5_2 < (l1_0.length : Int) := of_decide_eq_true (by first | (with_reducible assumption) | assumption)
                    obtain ⟨ad190, e190, hx190_0, hx190_1⟩ := at_T78 HR1_0.out x5_2 p190 q190
                    cases e190
                    replace hx190_0 := (HB.out.cell (World.block_lt_of_cell? w _ hx190_0)).trans hx190_0
                    replace hx190_1 := (HB.out.cell (World.block_lt_of_cell? w _ hx190_1)).trans hx190_1
                    replace p190 := eq_true p190
                    replace q190 := eq_true q190
                    go_wp2
                    repeat (go_quiet (fail); try go_wp2)
                    go_ret
                    exact ⟨by first | rfl | (simp [errW_none, errW_some] <;> rfl) | (simp [*, errW_none, errW_some] <;> rfl), by repeat (first | (with_reducible first | exact HB.out | apply below_alloc | apply pw_below_drewN | apply below_drew1 | refine below_set ?_ GE187.out | refine below_set ?_ GE188.out) | exact HB.out)⟩
                · rw [if_neg c16] at H
                  exact absurd H (by simp)
              · rw [if_neg c15] at H
                exact absurd H (by simp)
            · rw [if_neg c14] at H
              have c14b0 : decide (x5_2 < (l0_0.length : Int)) = false := decide_eq_false c14
              clear c14
              obtain rfl := Option.some.inj H
              have hnb28 := NB187_188.out
              have hnc28 := NB188_187.out
              have hcz29_0 : wr.cell? ⟨gb187, 0, none⟩ = some (.slice A0_0 l0_0.length c0_0) := (blk_cell BK187.out 0).trans rfl
              have hcz29_1 : wr.cell? ⟨gb187, 1, none⟩ = some (.string a0_1) := (blk_cell BK187.out 1).trans rfl
              have hfz29_0 := blk_frozen BK187.out 0
              have hfz29_1 := blk_frozen BK187.out 1
              go_wp2
              repeat (go_quiet (fail); try go_wp2)
              go_ret
              exact ⟨by first | rfl | (simp [errW_none, errW_some] <;> rfl) | (simp [*, errW_none, errW_some] <;> rfl), by repeat (first | (with_reducible first | exact HB.out | apply below_alloc | apply pw_below_drewN | apply below_drew1 | refine below_set ?_ GE187.out | refine below_set ?_ GE188.out) | exact HB.out)⟩

-- NOT PRINTED: function 3 (bulletinlaw15_ArticleParses)

-- NOT PRINTED: function 4 (bulletinlaw15_ArticleBodies)

end Go.Proofs.YtfeciafdioepiaaGreatDoor.PA
set_option linter.unusedVariables false
set_option linter.unusedSimpArgs false
namespace Go.Proofs.YtfeciafdioepiaaGreatDoor
open Go.RowKit Go.Proofs Go.Proofs.YtfeciafdioepiaaGreatDoorW.PrintWords Go.Proofs.YtfeciafdioepiaaGreatDoorW.PrintMore Go.Proofs.YtfeciafdioepiaaGreatDoor.PA

theorem BufAt.zeros (w : World) (n : Nat) : BufAt (w.alloc (.cells (List.replicate n (.int .u8 0)).toArray 5)) w.heap.size (List.replicate n 0) := by
  have hb := heap_alloc_last w (.cells (List.replicate n (.int .u8 0)).toArray 5)
  refine ⟨by simp, fun j hj => ?_, fun j hj => blk_frozen hb j⟩
  rw [List.length_replicate] at hj
  refine (blk_cell hb j).trans ?_
  simp [List.getD_eq_getElem?_getD, List.getElem?_replicate, hj]
theorem or_zero (v : Nat) (h : v < 256) : bits BinOp.or IntKind.u8 0 (v : Int) = (v : Int) := by
  have key : ∀ c : UInt8, bits BinOp.or IntKind.u8 0 (c.toNat : Int) = (c.toNat : Int) := by
    refine fun c => all_u8 (P := fun c => bits BinOp.or IntKind.u8 0 (c.toNat : Int) = (c.toNat : Int)) ?_ c
    decide +kernel
  have := key (UInt8.ofNat v)
  rwa [UInt8.toNat_ofNat', Nat.mod_eq_of_lt h] at this

theorem make_1 (w : World) : (Instr.makeSlice 44 (.int .i64 1) (.int .i64 1)).run Tryz.prog w = .ok (.slice (some ⟨w.heap.size, 0, none⟩) 1 1) (w.alloc (.cells #[.int .u8 0] 5)) := by
  obtain ⟨i0, hi, hz0, hz1, hz2⟩ := info_parts infoByte
  rw [run_make w 44 5 i0 _ Tryz.underlying44 hi hz0 .i64 .i64 1 1 (by decide) (by decide) (by rw [hz2]; decide) (by decide), hz1, show madeCells (Value.int IntKind.u8 0).cells (((1 : Int)).toNat * 1) = #[.int .u8 0] from by kernel_rfl]
  rfl
def encL1 (v : Nat) : List UInt8 := [UInt8.ofNat (v)]
set_option maxHeartbeats 2000000 in
set_option maxRecDepth 100000 in
theorem encode_1 (v : Nat) (w : World) (h1 : 0 ≤ v) (h2 : v ≤ 127) (h3 : v < 55296 ∨ 57343 < v) : Calls Tryz.prog 67 #[.int .i32 v] w fun e w' => e = .returned (.tuple #[.string (mkS (encL1 v)), .int .i64 0]) ∧ Below w.heap.size w w' := by
  have mk := make_1
  have hnot : bits BinOp.andNot IntKind.u8 0 127 = 0 := by decide
  have i0 := cls_at0
  go_enter Tryz.func67, Tryz.ntmps67
  go_wp2_with (go_at_call 93; refine (classes_any _).mono ?_; rintro e w1 ⟨rfl, hb⟩)
  have HB := Aside0.mk hb
  clear hb
  go_loopw [0, 9] (fun v0 v9 wr => ∃ k : Nat, k ≤ 0 ∧ v9 = .int .i64 k ∧ v0 = .int .i32 v ∧ Aside0 (Below w.heap.size w wr)) (fun _ v9 _ => 4 - (intOf v9).toNat)
  case atStart => exact ⟨0, by omega, rfl, rfl, ⟨HB.out⟩⟩
  case round =>
    obtain ⟨k, hk, rfl, rfl, HW⟩ := hrel
    have hk5 : k = 0 := by omega
    rcases hk5 with rfl
    · have hq : utf8_class_within.f 0 127 127 0 127 (v : Int) = some true := by
        unfold utf8_class_within.f; rw [if_pos (by omega), if_pos (by omega)]
        by_cases hv : (v : Int) < 55296
        · rw [if_pos hv]
        · rw [if_neg hv, decide_eq_true (by omega)]
      have Hq := Lib.hid hq
      clear hq
      have hbk := heap_alloc_last wr (.cells #[.int .u8 0, .int .u8 127, .int .u8 127, .int .i32 0, .int .i32 127] 130)
      have HBK := Aside0.mk hbk
      clear hbk
      go_wp2_with (go_at_call 94; refine (utf8_class_within.calls _ _ _ _ _ _ true _ Hq.out).mono ?_; rintro e w2 ⟨rfl, hb2⟩; have HB2 := Aside0.mk hb2; clear hb2)
      have HW2 : Aside0 (Below w.heap.size w w2) := ⟨(HW.out.alloc HW.out.size _).trans (HB2.out.mono (HW.out.alloc HW.out.size _).size)⟩
      have hbk2 : w2.heap[wr.heap.size]? = some (.cells #[.int .u8 0, .int .u8 127, .int .u8 127, .int .i32 0, .int .i32 127] 130 (0, 0)) := (HB2.out.block _ (by simp)).trans HBK.out
      have hlt2 : wr.heap.size < w2.heap.size := (Array.getElem?_eq_some_iff.1 hbk2).1
      have HBK2 := Aside0.mk hbk2
      have Hlt2 := Lib.hid hlt2
      clear hbk2 hlt2
      go_loopw [0, 7] (fun v0 v7 wi => ∃ j : Nat, j ≤ 0 ∧ v7 = .int .i64 j ∧ Aside0 (wi.heap[wr.heap.size]? = some (.cells #[.int .u8 0, .int .u8 127, .int .u8 127, .int .i32 0, .int .i32 127] 130 (0, 0))) ∧ Aside0 (Below w.heap.size w wi) ∧ ((j = 0 ∧ v0 = .int .i32 (((v : Nat) : Int)) ∧ Aside0 (BufAt wi w2.heap.size [0])))) (fun _ v7 _ => (intOf v7).toNat)
      case atStart =>
        refine ⟨0, by omega, rfl, ⟨blk_alloc HBK2.out _⟩, ⟨HW2.out.alloc HW2.out.size _⟩, ⟨rfl, rfl, ⟨BufAt.zeros w2 1⟩⟩⟩
      case round =>
        obtain ⟨j, hj, rfl, HC, HWi, hst⟩ := hrel
        rcases hst with ⟨rfl, rfl, HBuf⟩
        · have hcl := (blk_cell HC.out 0).trans rfl
          have hcm := (blk_cell HC.out 2).trans rfl
          have hbc := HBuf.out.cell 0 (by simp)
          have hbf := HBuf.out.free 0 (by simp)
          have hx : ((UInt8.ofNat (v)).toNat : Int) = (v : Int) := by rw [UInt8.toNat_ofNat']; omega
          have hset := HBuf.out.set (k := 0) (by simp) (UInt8.ofNat (v))
          rw [hx] at hset
          have hs := hset.string (by simp) 1
          have hs2 : (convert 44 9 (.slice (some ⟨w2.heap.size, 0, none⟩) 1 1)).run Tryz.prog (wr.setCell ⟨w2.heap.size, 0, none⟩ (.int .u8 ((v : Int)))) = .ok (.string (mkS (encL1 v))) (wr.setCell ⟨w2.heap.size, 0, none⟩ (.int .u8 ((v : Int)))) := hs
          have Hlt := Lib.hid (Nat.le_of_lt (Nat.lt_of_le_of_lt HW.out.size Hlt2.out))
          clear hset hs hx
          have hor0 := or_zero v (by omega)
          go_wp2
          go_ret2
          exact ⟨rfl, HWi.out.setCell (p := ⟨w2.heap.size, 0, none⟩) Hlt.out _⟩

theorem make_2 (w : World) : (Instr.makeSlice 44 (.int .i64 2) (.int .i64 2)).run Tryz.prog w = .ok (.slice (some ⟨w.heap.size, 0, none⟩) 2 2) (w.alloc (.cells #[.int .u8 0, .int .u8 0] 5)) := by
  obtain ⟨i0, hi, hz0, hz1, hz2⟩ := info_parts infoByte
  rw [run_make w 44 5 i0 _ Tryz.underlying44 hi hz0 .i64 .i64 2 2 (by decide) (by decide) (by rw [hz2]; decide) (by decide), hz1, show madeCells (Value.int IntKind.u8 0).cells (((2 : Int)).toNat * 1) = #[.int .u8 0, .int .u8 0] from by kernel_rfl]
  rfl
def encL2 (v : Nat) : List UInt8 := [UInt8.ofNat (192 + v / 64), UInt8.ofNat (128 + v % 64)]
set_option maxHeartbeats 2000000 in
set_option maxRecDepth 100000 in
theorem encode_2 (v : Nat) (w : World) (h1 : 128 ≤ v) (h2 : v ≤ 2047) (h3 : v < 55296 ∨ 57343 < v) : Calls Tryz.prog 67 #[.int .i32 v] w fun e w' => e = .returned (.tuple #[.string (mkS (encL2 v)), .int .i64 0]) ∧ Below w.heap.size w w' := by
  have mk := make_2
  have hnot : bits BinOp.andNot IntKind.u8 194 31 = 192 := by decide
  have i0 := cls_at0
  have i1 := cls_at1
  go_enter Tryz.func67, Tryz.ntmps67
  go_wp2_with (go_at_call 93; refine (classes_any _).mono ?_; rintro e w1 ⟨rfl, hb⟩)
  have HB := Aside0.mk hb
  clear hb
  go_loopw [0, 9] (fun v0 v9 wr => ∃ k : Nat, k ≤ 1 ∧ v9 = .int .i64 k ∧ v0 = .int .i32 v ∧ Aside0 (Below w.heap.size w wr)) (fun _ v9 _ => 4 - (intOf v9).toNat)
  case atStart => exact ⟨0, by omega, rfl, rfl, ⟨HB.out⟩⟩
  case round =>
    obtain ⟨k, hk, rfl, rfl, HW⟩ := hrel
    have hk5 : k = 0 ∨ k = 1 := by omega
    rcases hk5 with rfl | rfl
    · have hq : utf8_class_within.f 0 127 127 0 127 (v : Int) = some false := by unfold utf8_class_within.f; rw [if_pos (by omega), if_neg (by omega)]
      have Hq := Lib.hid hq
      clear hq
      go_wp2_with (go_at_call 94; refine (utf8_class_within.calls _ _ _ _ _ _ false _ Hq.out).mono ?_; rintro e w2 ⟨rfl, hb2⟩; have HB2 := Aside0.mk hb2; clear hb2)
      go_roundw
      case rel => exact ⟨1, by omega, rfl, rfl, ⟨(HW.out.alloc HW.out.size _).trans (HB2.out.mono (HW.out.alloc HW.out.size _).size)⟩⟩
      case measure => simp [intOf]
    · have hq : utf8_class_within.f 194 223 31 128 2047 (v : Int) = some true := by
        unfold utf8_class_within.f; rw [if_pos (by omega), if_pos (by omega)]
        by_cases hv : (v : Int) < 55296
        · rw [if_pos hv]
        · rw [if_neg hv, decide_eq_true (by omega)]
      have Hq := Lib.hid hq
      clear hq
      have hbk := heap_alloc_last wr (.cells #[.int .u8 194, .int .u8 223, .int .u8 31, .int .i32 128, .int .i32 2047] 130)
      have HBK := Aside0.mk hbk
      clear hbk
      go_wp2_with (go_at_call 94; refine (utf8_class_within.calls _ _ _ _ _ _ true _ Hq.out).mono ?_; rintro e w2 ⟨rfl, hb2⟩; have HB2 := Aside0.mk hb2; clear hb2)
      have HW2 : Aside0 (Below w.heap.size w w2) := ⟨(HW.out.alloc HW.out.size _).trans (HB2.out.mono (HW.out.alloc HW.out.size _).size)⟩
      have hbk2 : w2.heap[wr.heap.size]? = some (.cells #[.int .u8 194, .int .u8 223, .int .u8 31, .int .i32 128, .int .i32 2047] 130 (0, 0)) := (HB2.out.block _ (by simp)).trans HBK.out
      have hlt2 : wr.heap.size < w2.heap.size := (Array.getElem?_eq_some_iff.1 hbk2).1
      have HBK2 := Aside0.mk hbk2
      have Hlt2 := Lib.hid hlt2
      clear hbk2 hlt2
      go_loopw [0, 7] (fun v0 v7 wi => ∃ j : Nat, j ≤ 1 ∧ v7 = .int .i64 j ∧ Aside0 (wi.heap[wr.heap.size]? = some (.cells #[.int .u8 194, .int .u8 223, .int .u8 31, .int .i32 128, .int .i32 2047] 130 (0, 0))) ∧ Aside0 (Below w.heap.size w wi) ∧ ((j = 0 ∧ v0 = .int .i32 (((v / 64 : Nat) : Int)) ∧ Aside0 (BufAt wi w2.heap.size [0, UInt8.ofNat (128 + v % 64)])) ∨ (j = 1 ∧ v0 = .int .i32 (((v : Nat) : Int)) ∧ Aside0 (BufAt wi w2.heap.size [0, 0])))) (fun _ v7 _ => (intOf v7).toNat)
      case atStart =>
        refine ⟨1, by omega, rfl, ⟨blk_alloc HBK2.out _⟩, ⟨HW2.out.alloc HW2.out.size _⟩, Or.inr (⟨rfl, rfl, ⟨BufAt.zeros w2 2⟩⟩)⟩
      case round =>
        obtain ⟨j, hj, rfl, HC, HWi, hst⟩ := hrel
        rcases hst with ⟨rfl, rfl, HBuf⟩ | ⟨rfl, rfl, HBuf⟩
        · have hcl := (blk_cell HC.out 0).trans rfl
          have hcm := (blk_cell HC.out 2).trans rfl
          have hbc := HBuf.out.cell 0 (by simp)
          have hbf := HBuf.out.free 0 (by simp)
          have hx : ((UInt8.ofNat (192 + v / 64)).toNat : Int) = 192 + (v : Int) / 64 := by rw [UInt8.toNat_ofNat']; omega
          have hset := HBuf.out.set (k := 0) (by simp) (UInt8.ofNat (192 + v / 64))
          rw [hx] at hset
          have hs := hset.string (by simp) 2
          have hs2 : (convert 44 9 (.slice (some ⟨w2.heap.size, 0, none⟩) 2 2)).run Tryz.prog (wr.setCell ⟨w2.heap.size, 0, none⟩ (.int .u8 (192 + (v : Int) / 64))) = .ok (.string (mkS (encL2 v))) (wr.setCell ⟨w2.heap.size, 0, none⟩ (.int .u8 (192 + (v : Int) / 64))) := hs
          have Hlt := Lib.hid (Nat.le_of_lt (Nat.lt_of_le_of_lt HW.out.size Hlt2.out))
          clear hset hs hx

          go_wp2
          go_ret2
          exact ⟨rfl, HWi.out.setCell (p := ⟨w2.heap.size, 0, none⟩) Hlt.out _⟩
        · have hbc := HBuf.out.cell 1 (by simp)
          have hbf := HBuf.out.free 1 (by simp)
          have hrest : (v : Nat) / 64 = v / 64 := by omega
          have hset := HBuf.out.set (k := 1) (by simp) (UInt8.ofNat (128 + v % 64))
          have hand : bits BinOp.and IntKind.i32 (((v : Nat) : Int)) 63 = (((v % 64 : Nat)) : Int) := by rw [show (63 : Int) = 2 ^ 6 - 1 from by decide, bits_mask .i32 31 (by decide) wraps_i32 6 (by decide) _ (by omega) (by omega)]; omega
          have hx : ((UInt8.ofNat (128 + v % 64)).toNat : Int) = 128 + (((v % 64 : Nat)) : Int) := by rw [UInt8.toNat_ofNat']; omega
          rw [hx] at hset
          have hm64 : v % 64 < 64 := by omega
          generalize hmq : v % 64 = m at *
          have hor : bits BinOp.or IntKind.u8 128 (m : Int) = 128 + (m : Int) := u8_or128 _ (by omega) (by omega)
          have Hrest := Lib.hid hrest
          have Hset := Aside0.mk hset
          have Hlt := Lib.hid (Nat.le_of_lt (Nat.lt_of_le_of_lt HW.out.size Hlt2.out))
          clear hx hmq hset hrest
          go_wp2
          go_roundw
          case rel =>
            refine ⟨0, by omega, by go_num, ⟨(Below.heap_setCell _ _ _ _ (by have := Hlt2.out; simp; omega)).trans HC.out⟩, ⟨HWi.out.setCell (p := ⟨w2.heap.size, 1, none⟩) Hlt.out _⟩, Or.inl ⟨rfl, ?_, ⟨Hset.out⟩⟩⟩
            have := Hrest.out
            go_num
          case measure => simp [intOf]

theorem make_3 (w : World) : (Instr.makeSlice 44 (.int .i64 3) (.int .i64 3)).run Tryz.prog w = .ok (.slice (some ⟨w.heap.size, 0, none⟩) 3 3) (w.alloc (.cells #[.int .u8 0, .int .u8 0, .int .u8 0] 5)) := by
  obtain ⟨i0, hi, hz0, hz1, hz2⟩ := info_parts infoByte
  rw [run_make w 44 5 i0 _ Tryz.underlying44 hi hz0 .i64 .i64 3 3 (by decide) (by decide) (by rw [hz2]; decide) (by decide), hz1, show madeCells (Value.int IntKind.u8 0).cells (((3 : Int)).toNat * 1) = #[.int .u8 0, .int .u8 0, .int .u8 0] from by kernel_rfl]
  rfl
def encL3 (v : Nat) : List UInt8 := [UInt8.ofNat (224 + v / 4096), UInt8.ofNat (128 + v / 64 % 64), UInt8.ofNat (128 + v % 64)]
set_option maxHeartbeats 2000000 in
set_option maxRecDepth 100000 in
theorem encode_3 (v : Nat) (w : World) (h1 : 2048 ≤ v) (h2 : v ≤ 65535) (h3 : v < 55296 ∨ 57343 < v) : Calls Tryz.prog 67 #[.int .i32 v] w fun e w' => e = .returned (.tuple #[.string (mkS (encL3 v)), .int .i64 0]) ∧ Below w.heap.size w w' := by
  have mk := make_3
  have hnot : bits BinOp.andNot IntKind.u8 224 15 = 224 := by decide
  have i0 := cls_at0
  have i1 := cls_at1
  have i2 := cls_at2
  go_enter Tryz.func67, Tryz.ntmps67
  go_wp2_with (go_at_call 93; refine (classes_any _).mono ?_; rintro e w1 ⟨rfl, hb⟩)
  have HB := Aside0.mk hb
  clear hb
  go_loopw [0, 9] (fun v0 v9 wr => ∃ k : Nat, k ≤ 2 ∧ v9 = .int .i64 k ∧ v0 = .int .i32 v ∧ Aside0 (Below w.heap.size w wr)) (fun _ v9 _ => 4 - (intOf v9).toNat)
  case atStart => exact ⟨0, by omega, rfl, rfl, ⟨HB.out⟩⟩
  case round =>
    obtain ⟨k, hk, rfl, rfl, HW⟩ := hrel
    have hk5 : k = 0 ∨ k = 1 ∨ k = 2 := by omega
    rcases hk5 with rfl | rfl | rfl
    · have hq : utf8_class_within.f 0 127 127 0 127 (v : Int) = some false := by unfold utf8_class_within.f; rw [if_pos (by omega), if_neg (by omega)]
      have Hq := Lib.hid hq
      clear hq
      go_wp2_with (go_at_call 94; refine (utf8_class_within.calls _ _ _ _ _ _ false _ Hq.out).mono ?_; rintro e w2 ⟨rfl, hb2⟩; have HB2 := Aside0.mk hb2; clear hb2)
      go_roundw
      case rel => exact ⟨1, by omega, rfl, rfl, ⟨(HW.out.alloc HW.out.size _).trans (HB2.out.mono (HW.out.alloc HW.out.size _).size)⟩⟩
      case measure => simp [intOf]
    · have hq : utf8_class_within.f 194 223 31 128 2047 (v : Int) = some false := by unfold utf8_class_within.f; rw [if_pos (by omega), if_neg (by omega)]
      have Hq := Lib.hid hq
      clear hq
      go_wp2_with (go_at_call 94; refine (utf8_class_within.calls _ _ _ _ _ _ false _ Hq.out).mono ?_; rintro e w2 ⟨rfl, hb2⟩; have HB2 := Aside0.mk hb2; clear hb2)
      go_roundw
      case rel => exact ⟨2, by omega, rfl, rfl, ⟨(HW.out.alloc HW.out.size _).trans (HB2.out.mono (HW.out.alloc HW.out.size _).size)⟩⟩
      case measure => simp [intOf]
    · have hq : utf8_class_within.f 224 239 15 2048 65535 (v : Int) = some true := by
        unfold utf8_class_within.f; rw [if_pos (by omega), if_pos (by omega)]
        by_cases hv : (v : Int) < 55296
        · rw [if_pos hv]
        · rw [if_neg hv, decide_eq_true (by omega)]
      have Hq := Lib.hid hq
      clear hq
      have hbk := heap_alloc_last wr (.cells #[.int .u8 224, .int .u8 239, .int .u8 15, .int .i32 2048, .int .i32 65535] 130)
      have HBK := Aside0.mk hbk
      clear hbk
      go_wp2_with (go_at_call 94; refine (utf8_class_within.calls _ _ _ _ _ _ true _ Hq.out).mono ?_; rintro e w2 ⟨rfl, hb2⟩; have HB2 := Aside0.mk hb2; clear hb2)
      have HW2 : Aside0 (Below w.heap.size w w2) := ⟨(HW.out.alloc HW.out.size _).trans (HB2.out.mono (HW.out.alloc HW.out.size _).size)⟩
      have hbk2 : w2.heap[wr.heap.size]? = some (.cells #[.int .u8 224, .int .u8 239, .int .u8 15, .int .i32 2048, .int .i32 65535] 130 (0, 0)) := (HB2.out.block _ (by simp)).trans HBK.out
      have hlt2 : wr.heap.size < w2.heap.size := (Array.getElem?_eq_some_iff.1 hbk2).1
      have HBK2 := Aside0.mk hbk2
      have Hlt2 := Lib.hid hlt2
      clear hbk2 hlt2
      go_loopw [0, 7] (fun v0 v7 wi => ∃ j : Nat, j ≤ 2 ∧ v7 = .int .i64 j ∧ Aside0 (wi.heap[wr.heap.size]? = some (.cells #[.int .u8 224, .int .u8 239, .int .u8 15, .int .i32 2048, .int .i32 65535] 130 (0, 0))) ∧ Aside0 (Below w.heap.size w wi) ∧ ((j = 0 ∧ v0 = .int .i32 (((v / 4096 : Nat) : Int)) ∧ Aside0 (BufAt wi w2.heap.size [0, UInt8.ofNat (128 + v / 64 % 64), UInt8.ofNat (128 + v % 64)])) ∨ (j = 1 ∧ v0 = .int .i32 (((v / 64 : Nat) : Int)) ∧ Aside0 (BufAt wi w2.heap.size [0, 0, UInt8.ofNat (128 + v % 64)])) ∨ (j = 2 ∧ v0 = .int .i32 (((v : Nat) : Int)) ∧ Aside0 (BufAt wi w2.heap.size [0, 0, 0])))) (fun _ v7 _ => (intOf v7).toNat)
      case atStart =>
        refine ⟨2, by omega, rfl, ⟨blk_alloc HBK2.out _⟩, ⟨HW2.out.alloc HW2.out.size _⟩, Or.inr (Or.inr (⟨rfl, rfl, ⟨BufAt.zeros w2 3⟩⟩))⟩
      case round =>
        obtain ⟨j, hj, rfl, HC, HWi, hst⟩ := hrel
        rcases hst with ⟨rfl, rfl, HBuf⟩ | ⟨rfl, rfl, HBuf⟩ | ⟨rfl, rfl, HBuf⟩
        · have hcl := (blk_cell HC.out 0).trans rfl
          have hcm := (blk_cell HC.out 2).trans rfl
          have hbc := HBuf.out.cell 0 (by simp)
          have hbf := HBuf.out.free 0 (by simp)
          have hx : ((UInt8.ofNat (224 + v / 4096)).toNat : Int) = 224 + (v : Int) / 4096 := by rw [UInt8.toNat_ofNat']; omega
          have hset := HBuf.out.set (k := 0) (by simp) (UInt8.ofNat (224 + v / 4096))
          rw [hx] at hset
          have hs := hset.string (by simp) 3
          have hs2 : (convert 44 9 (.slice (some ⟨w2.heap.size, 0, none⟩) 3 3)).run Tryz.prog (wr.setCell ⟨w2.heap.size, 0, none⟩ (.int .u8 (224 + (v : Int) / 4096))) = .ok (.string (mkS (encL3 v))) (wr.setCell ⟨w2.heap.size, 0, none⟩ (.int .u8 (224 + (v : Int) / 4096))) := hs
          have Hlt := Lib.hid (Nat.le_of_lt (Nat.lt_of_le_of_lt HW.out.size Hlt2.out))
          clear hset hs hx

          go_wp2
          go_ret2
          exact ⟨rfl, HWi.out.setCell (p := ⟨w2.heap.size, 0, none⟩) Hlt.out _⟩
        · have hbc := HBuf.out.cell 1 (by simp)
          have hbf := HBuf.out.free 1 (by simp)
          have hq1 : v / 64 ≤ 1114111 := by omega
          have hrest : (v / 64 : Nat) / 64 = v / 4096 := by omega
          generalize hqq : v / 64 = q at *
          have Hqq := Lib.hid hqq
          clear hqq

          have hset := HBuf.out.set (k := 1) (by simp) (UInt8.ofNat (128 + q % 64))
          have hand : bits BinOp.and IntKind.i32 (((q : Nat) : Int)) 63 = (((q % 64 : Nat)) : Int) := by rw [show (63 : Int) = 2 ^ 6 - 1 from by decide, bits_mask .i32 31 (by decide) wraps_i32 6 (by decide) _ (by omega) (by omega)]; omega
          have hx : ((UInt8.ofNat (128 + q % 64)).toNat : Int) = 128 + (((q % 64 : Nat)) : Int) := by rw [UInt8.toNat_ofNat']; omega
          rw [hx] at hset
          have hm64 : q % 64 < 64 := by omega
          generalize hmq : q % 64 = m at *
          have hor : bits BinOp.or IntKind.u8 128 (m : Int) = 128 + (m : Int) := u8_or128 _ (by omega) (by omega)
          have Hrest := Lib.hid hrest
          have Hset := Aside0.mk hset
          have Hlt := Lib.hid (Nat.le_of_lt (Nat.lt_of_le_of_lt HW.out.size Hlt2.out))
          clear hx hmq hset hrest
          go_wp2
          go_roundw
          case rel =>
            refine ⟨0, by omega, by go_num, ⟨(Below.heap_setCell _ _ _ _ (by have := Hlt2.out; simp; omega)).trans HC.out⟩, ⟨HWi.out.setCell (p := ⟨w2.heap.size, 1, none⟩) Hlt.out _⟩, Or.inl ⟨rfl, ?_, ⟨Hset.out⟩⟩⟩
            have := Hrest.out
            go_num
          case measure => simp [intOf]
        · have hbc := HBuf.out.cell 2 (by simp)
          have hbf := HBuf.out.free 2 (by simp)
          have hrest : (v : Nat) / 64 = v / 64 := by omega
          have hset := HBuf.out.set (k := 2) (by simp) (UInt8.ofNat (128 + v % 64))
          have hand : bits BinOp.and IntKind.i32 (((v : Nat) : Int)) 63 = (((v % 64 : Nat)) : Int) := by rw [show (63 : Int) = 2 ^ 6 - 1 from by decide, bits_mask .i32 31 (by decide) wraps_i32 6 (by decide) _ (by omega) (by omega)]; omega
          have hx : ((UInt8.ofNat (128 + v % 64)).toNat : Int) = 128 + (((v % 64 : Nat)) : Int) := by rw [UInt8.toNat_ofNat']; omega
          rw [hx] at hset
          have hm64 : v % 64 < 64 := by omega
          generalize hmq : v % 64 = m at *
          have hor : bits BinOp.or IntKind.u8 128 (m : Int) = 128 + (m : Int) := u8_or128 _ (by omega) (by omega)
          have Hrest := Lib.hid hrest
          have Hset := Aside0.mk hset
          have Hlt := Lib.hid (Nat.le_of_lt (Nat.lt_of_le_of_lt HW.out.size Hlt2.out))
          clear hx hmq hset hrest
          go_wp2
          go_roundw
          case rel =>
            refine ⟨1, by omega, by go_num, ⟨(Below.heap_setCell _ _ _ _ (by have := Hlt2.out; simp; omega)).trans HC.out⟩, ⟨HWi.out.setCell (p := ⟨w2.heap.size, 2, none⟩) Hlt.out _⟩, Or.inr (Or.inl ⟨rfl, ?_, ⟨Hset.out⟩⟩)⟩
            have := Hrest.out
            go_num
          case measure => simp [intOf]

theorem make_4 (w : World) : (Instr.makeSlice 44 (.int .i64 4) (.int .i64 4)).run Tryz.prog w = .ok (.slice (some ⟨w.heap.size, 0, none⟩) 4 4) (w.alloc (.cells #[.int .u8 0, .int .u8 0, .int .u8 0, .int .u8 0] 5)) := by
  obtain ⟨i0, hi, hz0, hz1, hz2⟩ := info_parts infoByte
  rw [run_make w 44 5 i0 _ Tryz.underlying44 hi hz0 .i64 .i64 4 4 (by decide) (by decide) (by rw [hz2]; decide) (by decide), hz1, show madeCells (Value.int IntKind.u8 0).cells (((4 : Int)).toNat * 1) = #[.int .u8 0, .int .u8 0, .int .u8 0, .int .u8 0] from by kernel_rfl]
  rfl
def encL4 (v : Nat) : List UInt8 := [UInt8.ofNat (240 + v / 262144), UInt8.ofNat (128 + v / 4096 % 64), UInt8.ofNat (128 + v / 64 % 64), UInt8.ofNat (128 + v % 64)]
set_option maxHeartbeats 2000000 in
set_option maxRecDepth 100000 in
theorem encode_4 (v : Nat) (w : World) (h1 : 65536 ≤ v) (h2 : v ≤ 1114111) (h3 : v < 55296 ∨ 57343 < v) : Calls Tryz.prog 67 #[.int .i32 v] w fun e w' => e = .returned (.tuple #[.string (mkS (encL4 v)), .int .i64 0]) ∧ Below w.heap.size w w' := by
  have mk := make_4
  have hnot : bits BinOp.andNot IntKind.u8 240 7 = 240 := by decide
  have i0 := cls_at0
  have i1 := cls_at1
  have i2 := cls_at2
  have i3 := cls_at3
  go_enter Tryz.func67, Tryz.ntmps67
  go_wp2_with (go_at_call 93; refine (classes_any _).mono ?_; rintro e w1 ⟨rfl, hb⟩)
  have HB := Aside0.mk hb
  clear hb
  go_loopw [0, 9] (fun v0 v9 wr => ∃ k : Nat, k ≤ 3 ∧ v9 = .int .i64 k ∧ v0 = .int .i32 v ∧ Aside0 (Below w.heap.size w wr)) (fun _ v9 _ => 4 - (intOf v9).toNat)
  case atStart => exact ⟨0, by omega, rfl, rfl, ⟨HB.out⟩⟩
  case round =>
    obtain ⟨k, hk, rfl, rfl, HW⟩ := hrel
    have hk5 : k = 0 ∨ k = 1 ∨ k = 2 ∨ k = 3 := by omega
    rcases hk5 with rfl | rfl | rfl | rfl
    · have hq : utf8_class_within.f 0 127 127 0 127 (v : Int) = some false := by unfold utf8_class_within.f; rw [if_pos (by omega), if_neg (by omega)]
      have Hq := Lib.hid hq
      clear hq
      go_wp2_with (go_at_call 94; refine (utf8_class_within.calls _ _ _ _ _ _ false _ Hq.out).mono ?_; rintro e w2 ⟨rfl, hb2⟩; have HB2 := Aside0.mk hb2; clear hb2)
      go_roundw
      case rel => exact ⟨1, by omega, rfl, rfl, ⟨(HW.out.alloc HW.out.size _).trans (HB2.out.mono (HW.out.alloc HW.out.size _).size)⟩⟩
      case measure => simp [intOf]
    · have hq : utf8_class_within.f 194 223 31 128 2047 (v : Int) = some false := by unfold utf8_class_within.f; rw [if_pos (by omega), if_neg (by omega)]
      have Hq := Lib.hid hq
      clear hq
      go_wp2_with (go_at_call 94; refine (utf8_class_within.calls _ _ _ _ _ _ false _ Hq.out).mono ?_; rintro e w2 ⟨rfl, hb2⟩; have HB2 := Aside0.mk hb2; clear hb2)
      go_roundw
      case rel => exact ⟨2, by omega, rfl, rfl, ⟨(HW.out.alloc HW.out.size _).trans (HB2.out.mono (HW.out.alloc HW.out.size _).size)⟩⟩
      case measure => simp [intOf]
    · have hq : utf8_class_within.f 224 239 15 2048 65535 (v : Int) = some false := by unfold utf8_class_within.f; rw [if_pos (by omega), if_neg (by omega)]
      have Hq := Lib.hid hq
      clear hq
      go_wp2_with (go_at_call 94; refine (utf8_class_within.calls _ _ _ _ _ _ false _ Hq.out).mono ?_; rintro e w2 ⟨rfl, hb2⟩; have HB2 := Aside0.mk hb2; clear hb2)
      go_roundw
      case rel => exact ⟨3, by omega, rfl, rfl, ⟨(HW.out.alloc HW.out.size _).trans (HB2.out.mono (HW.out.alloc HW.out.size _).size)⟩⟩
      case measure => simp [intOf]
    · have hq : utf8_class_within.f 240 244 7 65536 1114111 (v : Int) = some true := by
        unfold utf8_class_within.f; rw [if_pos (by omega), if_pos (by omega)]
        by_cases hv : (v : Int) < 55296
        · rw [if_pos hv]
        · rw [if_neg hv, decide_eq_true (by omega)]
      have Hq := Lib.hid hq
      clear hq
      have hbk := heap_alloc_last wr (.cells #[.int .u8 240, .int .u8 244, .int .u8 7, .int .i32 65536, .int .i32 1114111] 130)
      have HBK := Aside0.mk hbk
      clear hbk
      go_wp2_with (go_at_call 94; refine (utf8_class_within.calls _ _ _ _ _ _ true _ Hq.out).mono ?_; rintro e w2 ⟨rfl, hb2⟩; have HB2 := Aside0.mk hb2; clear hb2)
      have HW2 : Aside0 (Below w.heap.size w w2) := ⟨(HW.out.alloc HW.out.size _).trans (HB2.out.mono (HW.out.alloc HW.out.size _).size)⟩
      have hbk2 : w2.heap[wr.heap.size]? = some (.cells #[.int .u8 240, .int .u8 244, .int .u8 7, .int .i32 65536, .int .i32 1114111] 130 (0, 0)) := (HB2.out.block _ (by simp)).trans HBK.out
      have hlt2 : wr.heap.size < w2.heap.size := (Array.getElem?_eq_some_iff.1 hbk2).1
      have HBK2 := Aside0.mk hbk2
      have Hlt2 := Lib.hid hlt2
      clear hbk2 hlt2
      go_loopw [0, 7] (fun v0 v7 wi => ∃ j : Nat, j ≤ 3 ∧ v7 = .int .i64 j ∧ Aside0 (wi.heap[wr.heap.size]? = some (.cells #[.int .u8 240, .int .u8 244, .int .u8 7, .int .i32 65536, .int .i32 1114111] 130 (0, 0))) ∧ Aside0 (Below w.heap.size w wi) ∧ ((j = 0 ∧ v0 = .int .i32 (((v / 262144 : Nat) : Int)) ∧ Aside0 (BufAt wi w2.heap.size [0, UInt8.ofNat (128 + v / 4096 % 64), UInt8.ofNat (128 + v / 64 % 64), UInt8.ofNat (128 + v % 64)])) ∨ (j = 1 ∧ v0 = .int .i32 (((v / 4096 : Nat) : Int)) ∧ Aside0 (BufAt wi w2.heap.size [0, 0, UInt8.ofNat (128 + v / 64 % 64), UInt8.ofNat (128 + v % 64)])) ∨ (j = 2 ∧ v0 = .int .i32 (((v / 64 : Nat) : Int)) ∧ Aside0 (BufAt wi w2.heap.size [0, 0, 0, UInt8.ofNat (128 + v % 64)])) ∨ (j = 3 ∧ v0 = .int .i32 (((v : Nat) : Int)) ∧ Aside0 (BufAt wi w2.heap.size [0, 0, 0, 0])))) (fun _ v7 _ => (intOf v7).toNat)
      case atStart =>
        refine ⟨3, by omega, rfl, ⟨blk_alloc HBK2.out _⟩, ⟨HW2.out.alloc HW2.out.size _⟩, Or.inr (Or.inr (Or.inr (⟨rfl, rfl, ⟨BufAt.zeros w2 4⟩⟩)))⟩
      case round =>
        obtain ⟨j, hj, rfl, HC, HWi, hst⟩ := hrel
        rcases hst with ⟨rfl, rfl, HBuf⟩ | ⟨rfl, rfl, HBuf⟩ | ⟨rfl, rfl, HBuf⟩ | ⟨rfl, rfl, HBuf⟩
        · have hcl := (blk_cell HC.out 0).trans rfl
          have hcm := (blk_cell HC.out 2).trans rfl
          have hbc := HBuf.out.cell 0 (by simp)
          have hbf := HBuf.out.free 0 (by simp)
          have hx : ((UInt8.ofNat (240 + v / 262144)).toNat : Int) = 240 + (v : Int) / 262144 := by rw [UInt8.toNat_ofNat']; omega
          have hset := HBuf.out.set (k := 0) (by simp) (UInt8.ofNat (240 + v / 262144))
          rw [hx] at hset
          have hs := hset.string (by simp) 4
          have hs2 : (convert 44 9 (.slice (some ⟨w2.heap.size, 0, none⟩) 4 4)).run Tryz.prog (wr.setCell ⟨w2.heap.size, 0, none⟩ (.int .u8 (240 + (v : Int) / 262144))) = .ok (.string (mkS (encL4 v))) (wr.setCell ⟨w2.heap.size, 0, none⟩ (.int .u8 (240 + (v : Int) / 262144))) := hs
          have Hlt := Lib.hid (Nat.le_of_lt (Nat.lt_of_le_of_lt HW.out.size Hlt2.out))
          clear hset hs hx

          go_wp2
          go_ret2
          exact ⟨rfl, HWi.out.setCell (p := ⟨w2.heap.size, 0, none⟩) Hlt.out _⟩
        · have hbc := HBuf.out.cell 1 (by simp)
          have hbf := HBuf.out.free 1 (by simp)
          have hq1 : v / 4096 ≤ 1114111 := by omega
          have hrest : (v / 4096 : Nat) / 64 = v / 262144 := by omega
          generalize hqq : v / 4096 = q at *
          have Hqq := Lib.hid hqq
          clear hqq

          have hset := HBuf.out.set (k := 1) (by simp) (UInt8.ofNat (128 + q % 64))
          have hand : bits BinOp.and IntKind.i32 (((q : Nat) : Int)) 63 = (((q % 64 : Nat)) : Int) := by rw [show (63 : Int) = 2 ^ 6 - 1 from by decide, bits_mask .i32 31 (by decide) wraps_i32 6 (by decide) _ (by omega) (by omega)]; omega
          have hx : ((UInt8.ofNat (128 + q % 64)).toNat : Int) = 128 + (((q % 64 : Nat)) : Int) := by rw [UInt8.toNat_ofNat']; omega
          rw [hx] at hset
          have hm64 : q % 64 < 64 := by omega
          generalize hmq : q % 64 = m at *
          have hor : bits BinOp.or IntKind.u8 128 (m : Int) = 128 + (m : Int) := u8_or128 _ (by omega) (by omega)
          have Hrest := Lib.hid hrest
          have Hset := Aside0.mk hset
          have Hlt := Lib.hid (Nat.le_of_lt (Nat.lt_of_le_of_lt HW.out.size Hlt2.out))
          clear hx hmq hset hrest
          go_wp2
          go_roundw
          case rel =>
            refine ⟨0, by omega, by go_num, ⟨(Below.heap_setCell _ _ _ _ (by have := Hlt2.out; simp; omega)).trans HC.out⟩, ⟨HWi.out.setCell (p := ⟨w2.heap.size, 1, none⟩) Hlt.out _⟩, Or.inl ⟨rfl, ?_, ⟨Hset.out⟩⟩⟩
            have := Hrest.out
            go_num
          case measure => simp [intOf]
        · have hbc := HBuf.out.cell 2 (by simp)
          have hbf := HBuf.out.free 2 (by simp)
          have hq1 : v / 64 ≤ 1114111 := by omega
          have hrest : (v / 64 : Nat) / 64 = v / 4096 := by omega
          generalize hqq : v / 64 = q at *
          have Hqq := Lib.hid hqq
          clear hqq

          have hset := HBuf.out.set (k := 2) (by simp) (UInt8.ofNat (128 + q % 64))
          have hand : bits BinOp.and IntKind.i32 (((q : Nat) : Int)) 63 = (((q % 64 : Nat)) : Int) := by rw [show (63 : Int) = 2 ^ 6 - 1 from by decide, bits_mask .i32 31 (by decide) wraps_i32 6 (by decide) _ (by omega) (by omega)]; omega
          have hx : ((UInt8.ofNat (128 + q % 64)).toNat : Int) = 128 + (((q % 64 : Nat)) : Int) := by rw [UInt8.toNat_ofNat']; omega
          rw [hx] at hset
          have hm64 : q % 64 < 64 := by omega
          generalize hmq : q % 64 = m at *
          have hor : bits BinOp.or IntKind.u8 128 (m : Int) = 128 + (m : Int) := u8_or128 _ (by omega) (by omega)
          have Hrest := Lib.hid hrest
          have Hset := Aside0.mk hset
          have Hlt := Lib.hid (Nat.le_of_lt (Nat.lt_of_le_of_lt HW.out.size Hlt2.out))
          clear hx hmq hset hrest
          go_wp2
          go_roundw
          case rel =>
            refine ⟨1, by omega, by go_num, ⟨(Below.heap_setCell _ _ _ _ (by have := Hlt2.out; simp; omega)).trans HC.out⟩, ⟨HWi.out.setCell (p := ⟨w2.heap.size, 2, none⟩) Hlt.out _⟩, Or.inr (Or.inl ⟨rfl, ?_, ⟨Hset.out⟩⟩)⟩
            have := Hrest.out
            go_num
          case measure => simp [intOf]
        · have hbc := HBuf.out.cell 3 (by simp)
          have hbf := HBuf.out.free 3 (by simp)
          have hrest : (v : Nat) / 64 = v / 64 := by omega
          have hset := HBuf.out.set (k := 3) (by simp) (UInt8.ofNat (128 + v % 64))
          have hand : bits BinOp.and IntKind.i32 (((v : Nat) : Int)) 63 = (((v % 64 : Nat)) : Int) := by rw [show (63 : Int) = 2 ^ 6 - 1 from by decide, bits_mask .i32 31 (by decide) wraps_i32 6 (by decide) _ (by omega) (by omega)]; omega
          have hx : ((UInt8.ofNat (128 + v % 64)).toNat : Int) = 128 + (((v % 64 : Nat)) : Int) := by rw [UInt8.toNat_ofNat']; omega
          rw [hx] at hset
          have hm64 : v % 64 < 64 := by omega
          generalize hmq : v % 64 = m at *
          have hor : bits BinOp.or IntKind.u8 128 (m : Int) = 128 + (m : Int) := u8_or128 _ (by omega) (by omega)
          have Hrest := Lib.hid hrest
          have Hset := Aside0.mk hset
          have Hlt := Lib.hid (Nat.le_of_lt (Nat.lt_of_le_of_lt HW.out.size Hlt2.out))
          clear hx hmq hset hrest
          go_wp2
          go_roundw
          case rel =>
            refine ⟨2, by omega, by go_num, ⟨(Below.heap_setCell _ _ _ _ (by have := Hlt2.out; simp; omega)).trans HC.out⟩, ⟨HWi.out.setCell (p := ⟨w2.heap.size, 3, none⟩) Hlt.out _⟩, Or.inr (Or.inr (Or.inl ⟨rfl, ?_, ⟨Hset.out⟩⟩))⟩
            have := Hrest.out
            go_num
          case measure => simp [intOf]
end Go.Proofs.YtfeciafdioepiaaGreatDoor
set_option linter.unusedVariables false
set_option linter.unusedSimpArgs false
namespace Go.Proofs.YtfeciafdioepiaaGreatDoor
open Go.RowKit Go.Shelf Go.Proofs

/-- How the body of a round may be left. -/
def roundEnds {α : Type} (I : List α → World → Prop) (Ix : Code → List α → World → Prop) (xs : List α) (W : World) : Exit → Act → World → Prop
  | .normal, _, W' => KeepsOthers W W' ∧ I xs W'
  | .ret, _, W' => KeepsOthers W W' ∧ Ix .ret xs W'
  | .exit id, _, W' => KeepsOthers W W' ∧ Ix (.exit id) xs W'
  | .goto t, _, W' => KeepsOthers W W' ∧ Ix (.goto t) xs W'
  | .panic _, _, _ => False
  | .outgrown, _, _ => False

/-- What an iterator (function g over the captured lb) does with whatever loop: Mv: how it moves between two rounds; Rd: what it reads; S: all has come; Sp: a part has come. -/
def Iter {α : Type} (P : Program) (g : Nat) (lb : Array Value) (encs : α → Array Value) (In : World → Prop) (Mv : World → World → Prop) (Rd : World → Prop) (S Sp : List α → Prop) (Lt : List α → α → Prop) : Prop :=
  ∀ (n l : Nat) (J Jx : List α → World → Prop) (W : World), (∀ pre W W', J pre W → Mv W W' → J pre W') → (∀ pre W, J pre W → Rd W) →
    (∀ pre x W1, J pre W1 → Lt pre x → YieldAt Fence.wide (n - 1) P l (encs x) W1 fun e W' =>
      (e = .returned (.bool true) ∧ J (pre ++ [x]) W') ∨ (e = .returned (.bool false) ∧ Jx (pre ++ [x]) W')) →
    J [] W → In W →
    CallsIn Fence.wide n P g (#[.func (.yield l) #[] #[]] ++ lb) W fun e W' => (∃ v, e = .returned v) ∧ ((∃ xs, S xs ∧ J xs W') ∨ (∃ pre, Sp pre ∧ Jx pre W'))

theorem range_law {α : Type} {n : Nat} {P : Program} {g : Operand} {ps : Array Tmp} {assign body : Code} {Q : Exit → Act → World → Prop} {a : Act} {w : World}
    {gf : Nat} {lb : Array Value} (hg : a.eval g = .func (.func gf) #[] lb) (eg : ∀ args w, (callFunc gf args).run P w = .ok (.enter gf args) w)
    {encs : α → Array Value} {In : World → Prop} {Mv : World → World → Prop} {Rd : World → Prop} {S Sp : List α → Prop} {Lt : List α → α → Prop} (hseq : Iter P gf lb encs In Mv Rd S Sp Lt)
    (hMv : ∀ W W', Mv W W' → KeepsOthers W W') (hps : ∀ x, (encs x).size = ps.size)
    (I : List α → World → Prop) (Ix : Code → List α → World → Prop) (hIm : ∀ pre W W', I pre W → Mv W W' → I pre W') (hIr : ∀ pre W, I pre W → Rd W)
    (hIp : ∀ pre W l o, w.heap.size ≤ l → I pre W → I pre (W.putObj l o)) (hIxp : ∀ c pre W l o, w.heap.size ≤ l → Ix c pre W → Ix c pre (W.putObj l o))
    (h0 : ∀ o o', I [] ((w.alloc o).alloc o')) (hin : ∀ o o', In ((w.alloc o).alloc o')) (a₁ : α → Act)
    (hassign : ∀ (l : Nat) (x : α) (W : World) (K : Act → World → Prop), K (a₁ x) W →
      assign.wpIn (Fence.wide.inRound l) (n - 1 - 1) P (Exit.then K (fun _ _ _ => False)) { tmps := (ps.zip (encs x)).foldl (fun t (p, v) => t.setIfInBounds p v) a.tmps, defers := [] } W)
    (hbody : ∀ (l : Nat) (pre : List α) (x : α) (W : World), I pre W → Lt pre x → body.wpIn (Fence.wide.inRound l) (n - 1 - 1) P (roundEnds I Ix (pre ++ [x]) W) (a₁ x) W)
    (hdone : ∀ (D : Nat) (xs : List α) (W : World), w.heap.size ≤ D → S xs → I xs W → W.heap[D]? = some (.deferred (some [])) → Q .normal { a with defers := { target := .collected D, args := #[] } :: a.defers } W)
    (hstop : ∀ (D : Nat) (c : Code) (pre : List α) (W : World), w.heap.size ≤ D → Sp pre → Ix c pre W → W.heap[D]? = some (.deferred (some [])) → c.wpIn Fence.wide n P Q { a with defers := { target := .collected D, args := #[] } :: a.defers } W) :
    (Code.rangeFunc g ps assign body).wpIn Fence.wide n P Q a w := by
  refine wpIn_rangeFunc fun fn hfn => ?_
  generalize hD : w.heap.size = D at *
  let R : LoopState → Option Code → Obj := fun st pe => .loop { state := st, pending := pe, fn, tmps := a.tmps, params := ps, assign, body, defers := D }
  let W1 := (w.alloc (.deferred (some []))).alloc (R .ready none)
  have hL : W1.heap[D + 1]? = some (R .ready none) := by
    have := World.alloc_heap_new (w.alloc (.deferred (some []))) (R .ready none)
    rwa [World.size_alloc, hD] at this
  have hK : W1.heap[D]? = some (.deferred (some [])) := by
    have h1 : (w.alloc (.deferred (some []))).heap[D]? = some (.deferred (some [])) := by rw [← hD]; exact World.alloc_heap_new w _
    exact (Below.heap_alloc _ _ _ (by rw [World.size_alloc, hD]; omega)).trans h1
  -- what the iterator is told to keep, and what holds where a round has stopped it
  let J : List α → World → Prop := fun pre W => I pre W ∧ W.heap[D + 1]? = some (R .ready none) ∧ W.heap[D]? = some (.deferred (some []))
  let Jx : List α → World → Prop := fun pre W => ∃ c, Ix c pre W ∧ W.heap[D + 1]? = some (R .done (some c)) ∧ W.heap[D]? = some (.deferred (some []))
  have hit := hseq (n - 1) (D + 1) J Jx W1
    (fun pre W W' h hm => ⟨hIm _ _ _ h.1 hm, (hMv _ _ hm).same _ _ h.2.1 rfl, (hMv _ _ hm).same _ _ h.2.2 rfl⟩) (fun pre W h => hIr _ _ h.1)
  refine ⟨D + 1, [{ target := .collected D, args := #[] }], W1, { target := .fn (.func gf) lb, args := #[.func (.yield (D + 1)) #[] #[]] }, W1, gf, #[.func (.yield (D + 1)) #[] #[]] ++ lb, W1, ?_, ?_, fun _ _ => trivial, ?_, (fun h => nomatch h), ?_⟩
  · have := run_enterLoop_outer (P := P) (w := w) fn a.tmps ps assign body
    rw [hD] at this
    exact this
  · simp only [resolve, hg]
    simp [go_sem]
  · simp [invoke, go_sem, eg]
  refine (hit ?_ ⟨h0 _ _, hL, hK⟩ (hin _ _)).mono ?_
  · -- a round
    rintro pre x W ⟨hi, hl, hk⟩ hlt
    have hsz : D + 1 < W.heap.size := (Array.getElem?_eq_some_iff.1 hl).1
    refine ⟨fn, _, assign, body, run_yield hl (hps x), roundIn_of_wpIn hfn (hassign _ x W _ ⟨_, run_beginRound hl rfl, ?_⟩)⟩
    have hl2 : (W.putObj (D + 1) (R .busy none)).heap[D + 1]? = some (R .busy none) := World.putObj_heap_same hsz
    have hk2 : (W.putObj (D + 1) (R .busy none)).heap[D]? = some (.deferred (some [])) := (World.putObj_heap_other (by omega)).trans hk
    refine wpIn_mono (hbody _ pre x _ (hIp _ _ _ _ (by omega) hi) hlt) ?_
    -- the record behind the round, whatever the jump
    have after : ∀ (jump : Option Code) (W3 : World), KeepsOthers (W.putObj (D + 1) (R .busy none)) W3 →
        (Instr.endRound (D + 1) jump).run P W3 = .ok (.bool jump.isNone) (W3.putObj (D + 1) (R (if jump.isNone then .ready else .done) jump)) ∧
        (W3.putObj (D + 1) (R (if jump.isNone then .ready else .done) jump)).heap[D + 1]? = some (R (if jump.isNone then .ready else .done) jump) ∧
        (W3.putObj (D + 1) (R (if jump.isNone then .ready else .done) jump)).heap[D]? = some (.deferred (some [])) := fun jump W3 hk3 =>
      ⟨run_endRound jump (hk3.same _ _ hl2 rfl), World.putObj_heap_same (Array.getElem?_eq_some_iff.1 (hk3.same _ _ hl2 rfl)).1, (World.putObj_heap_other (by omega)).trans (hk3.same _ _ hk2 rfl)⟩
    rintro e a3 W3 hp
    have stops : ∀ c, KeepsOthers (W.putObj (D + 1) (R .busy none)) W3 → Ix c (pre ++ [x]) W3 → ∃ v w', (Instr.endRound (D + 1) (some c)).run P W3 = .ok v w' ∧ ((Ending.returned v = .returned (.bool true) ∧ J (pre ++ [x]) w') ∨ (Ending.returned v = .returned (.bool false) ∧ Jx (pre ++ [x]) w')) := by
      intro c hk3 hx
      obtain ⟨e1, e2, e3⟩ := after (some c) W3 hk3
      exact ⟨_, _, e1, .inr ⟨rfl, c, hIxp _ _ _ _ _ (by omega) hx, e2, e3⟩⟩
    cases e with
    | normal =>
      obtain ⟨hk3, hi3⟩ := hp
      obtain ⟨e1, e2, e3⟩ := after none W3 hk3
      exact ⟨_, _, e1, .inl ⟨rfl, hIp _ _ _ _ (by omega) hi3, e2, e3⟩⟩
    | ret => exact stops _ hp.1 hp.2
    | exit id => exact stops _ hp.1 hp.2
    | goto t => exact stops _ hp.1 hp.2
    | panic ch => exact hp.elim
    | outgrown => exact hp.elim
  · -- behind the iterator
    rintro e W2 ⟨⟨v, rfl⟩, (⟨xs, hS, hi, hl, hk⟩ | ⟨pre, hSp, c, hi, hl, hk⟩)⟩
    · exact ⟨none, _, run_endLoop hl (by simp), hdone _ xs _ (Nat.le_refl _) hS (hIp _ _ _ _ (by omega) hi) ((World.putObj_heap_other (by omega)).trans hk)⟩
    · exact ⟨some c, _, run_endLoop hl (by simp), hstop _ c pre _ (Nat.le_refl _) hSp (hIxp _ _ _ _ _ (by omega) hi) ((World.putObj_heap_other (by omega)).trans hk)⟩
end Go.Proofs.YtfeciafdioepiaaGreatDoor
