/- Merged texts: H11, H12, H13, H14, H15; Contracts proved by hand over this translation, in the printed form: Cut, badByt; The contracts of the two Level over this translation. -/
import Derived.Test.YtfeciafdioepiaaGreatDoorProg
import Derived.Below
import Derived.Deep.Draws
import Derived.Deep.AppendLies
import Derived.Maps.AppendAt
import Derived.OwnWalk
import Derived.Laws.BytesArg
import Derived.Laws.MakeOwn
import Derived.Laws.OwnMore
import Derived.Deep.OwnRows
import Derived.Tactics
import Derived.Lib.ConvBytes
import Derived.Laws.Slices
import Derived.WalkKit
import Derived.KernelRfl
import Derived.RowKit3
import Derived.Deep.LoopGhost
import Derived.Deep.QuietTactic
import Derived.BigQuiet
import Derived.WideLaws
import Derived.Deep.DeepCutAuto
import Derived.Deep.CutBlock
import Derived.Deep.RegionHeld3
import Derived.Laws.Rows
import Derived.Lib.AppendStr
import Derived.ArgAppend
import Derived.Laws.IdiomCopy
import Derived.OrdersHeld
import Derived.Laws.BitsLemmas
import Derived.RowKit
import Derived.Test.YtfeciafdioepiaaGreatDoorHSt1
import Derived.Test.YtfeciafdioepiaaGreatDoorWWords
import Derived.Test.YtfeciafdioepiaaGreatDoorWLast
import Derived.Test.YtfeciafdioepiaaGreatDoorWTab
import Derived.Test.YtfeciafdioepiaaGreatDoorWFour
import Derived.Test.YtfeciafdioepiaaGreatDoorWQPut
import Derived.Test.YtfeciafdioepiaaGreatDoorWApart
import Derived.Test.YtfeciafdioepiaaGreatDoorWArr
import Derived.Test.YtfeciafdioepiaaGreatDoorWZeros
import Derived.Test.YtfeciafdioepiaaGreatDoorWFoot
import Derived.Test.YtfeciafdioepiaaGreatDoorWKept
import Derived.Test.YtfeciafdioepiaaGreatDoorWShare
import Derived.Test.YtfeciafdioepiaaGreatDoorWN
import Derived.Test.YtfeciafdioepiaaGreatDoorWFootNe
import Derived.Test.YtfeciafdioepiaaGreatDoorWAt
import Derived.Test.YtfeciafdioepiaaGreatDoorWEqStruct
import Derived.Test.YtfeciafdioepiaaGreatDoorWRepsOne
import Derived.Test.YtfeciafdioepiaaGreatDoorWInv
import Derived.Test.YtfeciafdioepiaaGreatDoorWInvWords
import Derived.Test.YtfeciafdioepiaaGreatDoorWGuard
import Derived.Test.YtfeciafdioepiaaGreatDoorWNEv
import Derived.Test.YtfeciafdioepiaaGreatDoorWMore
import Derived.Test.YtfeciafdioepiaaGreatDoorHSt4
import Derived.Lib.CountLaws
import Derived.Test.YtfeciafdioepiaaGreatDoorHSt0
import Derived.Test.YtfeciafdioepiaaGreatDoorHSt3
namespace Go.Proofs.YtfeciafdioepiaaGreatDoor.PB
open Go.Proofs.YtfeciafdioepiaaGreatDoor.PA
open Go.Proofs.YtfeciafdioepiaaGreatDoor
open Go.RowKit Go.Proofs.YtfeciafdioepiaaGreatDoorW.PrintWords Go.Proofs.YtfeciafdioepiaaGreatDoorW.PrintLast Go.Proofs.YtfeciafdioepiaaGreatDoorW.PrintMore
attribute [local go_sem] max2_int min2_int max_two min_two max_three min_three max_four min_four   -- for this text's walks alone
set_option linter.unusedVariables false
set_option linter.unusedSimpArgs false

/-! ### field_Field_Check: function 89 -/
def field_Field_Check.f (k : Nat) (a0_0 : ByteArray) (a0_1 : ByteArray) : Option (Int) := (GV.Words.f a0_1).bind fun t102 => ((PA.field_ValidName.f k a0_0).bind fun t105 => (if t105 = true then ((GV.Printable.f a0_1).bind fun t106 => (if t106 ≥ 0 then (some 6) else ((GV.Join.f t102 (⟨#[32]⟩ : ByteArray)).bind fun t107 => (if t107.toList = a0_1.toList then (if (a0_1.size : Int) > 8192 then (some 5) else ((GV.someLong.f t102 (Value.func (.func 120) #[] #[])).bind fun t108 => (if t108 = true then (some 5) else (some 0)))) else (some 3))))) else (some 12)))
set_option maxHeartbeats 8000000 in
set_option maxRecDepth 100000 in
theorem field_Field_Check.calls (k : Nat) (a0_0 : ByteArray) (a0_1 : ByteArray) (r : Int) (w : World) (h : field_Field_Check.f k a0_0 a0_1 = some r) :
    Calls Tryz.prog 89 #[.agg #[.string a0_0, .string a0_1]] w fun e w' => e = .returned (.int .i64 r) ∧ Below w.heap.size w w' := by
  have hu76 := Tryz.underlying76
  have HB := Aside0.mk (Below.refl w.heap.size w)
  have H : ((GV.Words.f a0_1).bind fun t102 => ((PA.field_ValidName.f k a0_0).bind fun t105 => (if t105 = true then ((GV.Printable.f a0_1).bind fun t106 => (if t106 ≥ 0 then (some 6) else ((GV.Join.f t102 (⟨#[32]⟩ : ByteArray)).bind fun t107 => (if t107.toList = a0_1.toList then (if (a0_1.size : Int) > 8192 then (some 5) else ((GV.someLong.f t102 (Value.func (.func 120) #[] #[])).bind fun t108 => (if t108 = true then (some 5) else (some 0)))) else (some 3))))) else (some 12)))) = some r := h
  clear h
  replace H := Option.bind_eq_some_iff.mp H
  obtain ⟨t102, A20, H⟩ := H
  replace H : ((PA.field_ValidName.f k a0_0).bind fun t105 => (if t105 = true then ((GV.Printable.f a0_1).bind fun t106 => (if t106 ≥ 0 then (some 6) else ((GV.Join.f t102 (⟨#[32]⟩ : ByteArray)).bind fun t107 => (if t107.toList = a0_1.toList then (if (a0_1.size : Int) > 8192 then (some 5) else ((GV.someLong.f t102 (Value.func (.func 120) #[] #[])).bind fun t108 => (if t108 = true then (some 5) else (some 0)))) else (some 3))))) else (some 12))) = some r := H
  have A2 := Aside0.mk A20
  clear A20
  replace H := Option.bind_eq_some_iff.mp H
  obtain ⟨t105, A30, H⟩ := H
  replace H : (if t105 = true then ((GV.Printable.f a0_1).bind fun t106 => (if t106 ≥ 0 then (some 6) else ((GV.Join.f t102 (⟨#[32]⟩ : ByteArray)).bind fun t107 => (if t107.toList = a0_1.toList then (if (a0_1.size : Int) > 8192 then (some 5) else ((GV.someLong.f t102 (Value.func (.func 120) #[] #[])).bind fun t108 => (if t108 = true then (some 5) else (some 0)))) else (some 3))))) else (some 12)) = some r := H
  have A3 := Aside0.mk A30
  clear A30
  by_cases c4 : t105 = true
  · subst c4
    have H1 : ((GV.Printable.f a0_1).bind fun t106 => (if t106 ≥ 0 then (some 6) else ((GV.Join.f t102 (⟨#[32]⟩ : ByteArray)).bind fun t107 => (if t107.toList = a0_1.toList then (if (a0_1.size : Int) > 8192 then (some 5) else ((GV.someLong.f t102 (Value.func (.func 120) #[] #[])).bind fun t108 => (if t108 = true then (some 5) else (some 0)))) else (some 3))))) = some r := by rw [if_pos rfl] at H; exact H
    clear H
    have H := H1
    clear H1
    replace H := Option.bind_eq_some_iff.mp H
    obtain ⟨t106, A50, H⟩ := H
    replace H : (if t106 ≥ 0 then (some 6) else ((GV.Join.f t102 (⟨#[32]⟩ : ByteArray)).bind fun t107 => (if t107.toList = a0_1.toList then (if (a0_1.size : Int) > 8192 then (some 5) else ((GV.someLong.f t102 (Value.func (.func 120) #[] #[])).bind fun t108 => (if t108 = true then (some 5) else (some 0)))) else (some 3)))) = some r := H
    have A5 := Aside0.mk A50
    clear A50
    by_cases c6 : t106 ≥ 0
    · rw [if_pos c6] at H
      have c6b0 : decide (0 ≤ t106) = true := decide_eq_true c6
      clear c6
      obtain rfl := Option.some.inj H
      go_enter Tryz.func89, Tryz.ntmps89
      go_wp2_with (first | ((with_reducible refine gate_dst (N := 1) rfl ?_); refine box_event ?hg (N := 1) ?hd (cs := #[.string a0_0, .string a0_1]) (t := 76) ?hr ?_; (case hd => rfl); (case hg => rfl); (case hr => first | (go_simp; done) | (go_simp; rfl)); intro gb101 hg w7 hbox hb; have n0_ := Aside0.mk (below_step (by repeat (first | (with_reducible first | exact HB.out | apply below_alloc | apply pw_below_drewN | apply below_drew1) | exact HB.out)) hb); have n1_ := Aside0.mk (hbox); have n2_ := Aside0.mk ((by rw [hg]; exact (below_size (by repeat (first | (with_reducible first | exact HB.out | apply below_alloc | apply pw_below_drewN | apply below_drew1) | exact HB.out))) : w.heap.size ≤ gb101)); have n3_ := Aside0.mk ((by rw [hg]; exact (below_size (by repeat (first | (with_reducible first | exact HB.out | apply below_alloc | apply pw_below_drewN | apply below_drew1) | exact HB.out))) : w.heap.size ≤ gb101)); clear HB; have HB := n0_; have BK101 := n1_; have GW101 := n2_; have GE101 := n3_; clear n0_ n1_ n2_ n3_; clear hb hbox hg; have hcz8_0 : w7.cell? ⟨gb101, 0, none⟩ = some (.string a0_0) := (blk_cell BK101.out 0).trans rfl; have hcz8_1 : w7.cell? ⟨gb101, 1, none⟩ = some (.string a0_1) := (blk_cell BK101.out 1).trans rfl; have hfz8_0 := blk_frozen BK101.out 0; have hfz8_1 := blk_frozen BK101.out 1) | ((with_reducible refine gate_callee (f := 90) rfl ?_); refine goesL_ (some 6) rfl rfl Tryz.func90 (by kernel_rfl) rfl #[.string a0_1] rfl (by (try simp only [List.map_toArray, List.map_cons, List.map_nil]); first | done | rfl | (simp only [List.length_drop, List.length_take]; rfl)) ?_; (with_reducible refine (GV.Words.calls a0_1 t102 _ A2.out).mono ?_); rintro e w9 ⟨v103, rfl, ho0, hb⟩; refine ⟨_, rfl, ?_⟩; have n0_ := Aside0.mk (Kd.R_lower ho0 (below_size (by repeat (first | (with_reducible first | exact HB.out | apply below_alloc | apply pw_below_drewN | apply below_drew1 | refine below_set ?_ GE101.out) | exact HB.out)))); have n1_ := Aside0.mk (blk_below (g := gb101) (o := .cells #[.string a0_0, .string a0_1] 76 (0, 0)) (by (with_reducible repeat (first | refine blk_drewN ?_ _ | refine blk_drew ?_ | refine blk_alloc ?_ _)); exact BK101.out) hb); have n2_ := Aside0.mk (below_step (by repeat (first | (with_reducible first | exact HB.out | apply below_alloc | apply pw_below_drewN | apply below_drew1 | refine below_set ?_ GE101.out) | exact HB.out)) hb); clear BK101; clear HB; have HO104 := n0_; have BK101 := n1_; have HB := n2_; clear n0_ n1_ n2_; (try clear hb); (try clear hb2); (try clear hk); (try clear hi); (try clear ho0); have hcz10_0 : w9.cell? ⟨gb101, 0, none⟩ = some (.string a0_0) := (blk_cell BK101.out 0).trans rfl; have hcz10_1 : w9.cell? ⟨gb101, 1, none⟩ = some (.string a0_1) := (blk_cell BK101.out 1).trans rfl; have hfz10_0 := blk_frozen BK101.out 0; have hfz10_1 := blk_frozen BK101.out 1) | ((with_reducible refine gate_callee (f := 116) rfl ?_); refine goesL_ (some 10) rfl rfl Tryz.func116 (by kernel_rfl) rfl #[.string a0_0] rfl (by (try simp only [List.map_toArray, List.map_cons, List.map_nil]); first | done | rfl | (simp only [List.length_drop, List.length_take]; rfl)) ?_; (with_reducible refine (PA.field_ValidName.calls k a0_0 true _ A3.out).mono ?_); rintro e w' ⟨rfl, ⟨nd, rfl⟩⟩; refine ⟨_, rfl, ?_⟩) | ((with_reducible refine gate_callee (f := 117) rfl ?_); refine goesL_ (some 15) rfl rfl Tryz.func117 (by kernel_rfl) rfl #[.string a0_1] rfl (by (try simp only [List.map_toArray, List.map_cons, List.map_nil]); first | done | rfl | (simp only [List.length_drop, List.length_take]; rfl)) ?_; (with_reducible refine (GV.Printable.calls a0_1 t106 _ A5.out).mono ?_); rintro e w' ⟨rfl, ⟨nd, rfl⟩⟩; refine ⟨_, rfl, ?_⟩))
      go_ret
      exact ⟨by first | rfl | (simp [errW_none, errW_some] <;> rfl) | (simp [*, errW_none, errW_some] <;> rfl), by repeat (first | (with_reducible first | exact HB.out | apply below_alloc | apply pw_below_drewN | apply below_drew1 | refine below_set ?_ GE101.out) | exact HB.out)⟩
    · rw [if_neg c6] at H
      have c6b0 : decide (0 ≤ t106) = false := decide_eq_false c6
      clear c6
      replace H := Option.bind_eq_some_iff.mp H
      obtain ⟨t107, A110, H⟩ := H
      replace H : (if t107.toList = a0_1.toList then (if (a0_1.size : Int) > 8192 then (some 5) else ((GV.someLong.f t102 (Value.func (.func 120) #[] #[])).bind fun t108 => (if t108 = true then (some 5) else (some 0)))) else (some 3)) = some r := H
      have A11 := Aside0.mk A110
      clear A110
      by_cases c12 : t107.toList = a0_1.toList
      · rw [if_pos c12] at H
        have c12b0 : (t107.toList == a0_1.toList) = true := beq_iff_eq.mpr c12
        have c12b1 : (t107.toList != a0_1.toList) = false := bne_eq_false_iff_eq.mpr c12
        clear c12
        by_cases c13 : (a0_1.size : Int) > 8192
        · rw [if_pos c13] at H
          have c13b0 : decide (8192 < (a0_1.size : Int)) = true := decide_eq_true c13
          have c13b1 : decide (8192 < a0_1.size) = true := decide_eq_true (by omega)
          clear c13
          obtain rfl := Option.some.inj H
          go_enter Tryz.func89, Tryz.ntmps89
          try go_wp2_with (first | ((with_reducible refine gate_dst (N := 1) rfl ?_); refine box_event ?hg (N := 1) ?hd (cs := #[.string a0_0, .string a0_1]) (t := 76) ?hr ?_; (case hd => rfl); (case hg => rfl); (case hr => first | (go_simp; done) | (go_simp; rfl)); intro gb101 hg w14 hbox hb; have n0_ := Aside0.mk (below_step (by repeat (first | (with_reducible first | exact HB.out | apply below_alloc | apply pw_below_drewN | apply below_drew1) | exact HB.out)) hb); have n1_ := Aside0.mk (hbox); have n2_ := Aside0.mk ((by rw [hg]; exact (below_size (by repeat (first | (with_reducible first | exact HB.out | apply below_alloc | apply pw_below_drewN | apply below_drew1) | exact HB.out))) : w.heap.size ≤ gb101)); have n3_ := Aside0.mk ((by rw [hg]; exact (below_size (by repeat (first | (with_reducible first | exact HB.out | apply below_alloc | apply pw_below_drewN | apply below_drew1) | exact HB.out))) : w.heap.size ≤ gb101)); clear HB; have HB := n0_; have BK101 := n1_; have GW101 := n2_; have GE101 := n3_; clear n0_ n1_ n2_ n3_; clear hb hbox hg; have hcz15_0 : w14.cell? ⟨gb101, 0, none⟩ = some (.string a0_0) := (blk_cell BK101.out 0).trans rfl; have hcz15_1 : w14.cell? ⟨gb101, 1, none⟩ = some (.string a0_1) := (blk_cell BK101.out 1).trans rfl; have hfz15_0 := blk_frozen BK101.out 0; have hfz15_1 := blk_frozen BK101.out 1) | ((with_reducible refine gate_callee (f := 90) rfl ?_); refine goesL_ (some 6) rfl rfl Tryz.func90 (by kernel_rfl) rfl #[.string a0_1] rfl (by (try simp only [List.map_toArray, List.map_cons, List.map_nil]); first | done | rfl | (simp only [List.length_drop, List.length_take]; rfl)) ?_; (with_reducible refine (GV.Words.calls a0_1 t102 _ A2.out).mono ?_); rintro e w16 ⟨v103, rfl, ho0, hb⟩; refine ⟨_, rfl, ?_⟩; have n0_ := Aside0.mk (Kd.R_lower ho0 (below_size (by repeat (first | (with_reducible first | exact HB.out | apply below_alloc | apply pw_below_drewN | apply below_drew1 | refine below_set ?_ GE101.out) | exact HB.out)))); have n1_ := Aside0.mk (blk_below (g := gb101) (o := .cells #[.string a0_0, .string a0_1] 76 (0, 0)) (by (with_reducible repeat (first | refine blk_drewN ?_ _ | refine blk_drew ?_ | refine blk_alloc ?_ _)); exact BK101.out) hb); have n2_ := Aside0.mk (below_step (by repeat (first | (with_reducible first | exact HB.out | apply below_alloc | apply pw_below_drewN | apply below_drew1 | refine below_set ?_ GE101.out) | exact HB.out)) hb); clear BK101; clear HB; have HO104 := n0_; have BK101 := n1_; have HB := n2_; clear n0_ n1_ n2_; (try clear hb); (try clear hb2); (try clear hk); (try clear hi); (try clear ho0); have hcz17_0 : w16.cell? ⟨gb101, 0, none⟩ = some (.string a0_0) := (blk_cell BK101.out 0).trans rfl; have hcz17_1 : w16.cell? ⟨gb101, 1, none⟩ = some (.string a0_1) := (blk_cell BK101.out 1).trans rfl; have hfz17_0 := blk_frozen BK101.out 0; have hfz17_1 := blk_frozen BK101.out 1) | ((with_reducible refine gate_callee (f := 116) rfl ?_); refine goesL_ (some 10) rfl rfl Tryz.func116 (by kernel_rfl) rfl #[.string a0_0] rfl (by (try simp only [List.map_toArray, List.map_cons, List.map_nil]); first | done | rfl | (simp only [List.length_drop, List.length_take]; rfl)) ?_; (with_reducible refine (PA.field_ValidName.calls k a0_0 true _ A3.out).mono ?_); rintro e w' ⟨rfl, ⟨nd, rfl⟩⟩; refine ⟨_, rfl, ?_⟩) | ((with_reducible refine gate_callee (f := 117) rfl ?_); refine goesL_ (some 15) rfl rfl Tryz.func117 (by kernel_rfl) rfl #[.string a0_1] rfl (by (try simp only [List.map_toArray, List.map_cons, List.map_nil]); first | done | rfl | (simp only [List.length_drop, List.length_take]; rfl)) ?_; (with_reducible refine (GV.Printable.calls a0_1 t106 _ A5.out).mono ?_); rintro e w' ⟨rfl, ⟨nd, rfl⟩⟩; refine ⟨_, rfl, ?_⟩))
          (try (rw [drewN_self w16]; generalize hq_ : World.drewN w16 _ = w16; have n0_ : Aside0 (Kd.R Kd.string 9 w16 w.heap.size (fun _ => True) v103 t102) := ⟨by rw [← hq_]; exact (by (with_reducible repeat (first | apply Kd.R_alloc | apply Kd.R_drewN | apply Kd.R_drew)); exact HO104.out)⟩; have n1_ : Aside0 (w16.heap[gb101]? = some (.cells #[.string a0_0, .string a0_1] 76 (0, 0))) := ⟨by rw [← hq_]; exact (by (with_reducible repeat (first | refine blk_drewN ?_ _ | refine blk_drew ?_ | refine blk_alloc ?_ _)); exact BK101.out)⟩; have n2_ : Aside0 (Below w.heap.size w w16) := ⟨by rw [← hq_]; exact (by repeat (first | (with_reducible first | exact HB.out | apply below_alloc | apply pw_below_drewN | apply below_drew1 | refine below_set ?_ GE101.out) | exact HB.out))⟩; clear HO104 BK101 HB hq_; have HO104 := n0_; have BK101 := n1_; have HB := n2_; clear n0_ n1_ n2_))
          have n0_ := Aside0.mk (Kd.R_drew HO104.out)
          have n1_ := Aside0.mk (blk_drew BK101.out)
          have n2_ := Aside0.mk (below_drew1 HB.out)
          clear HO104
          clear BK101
          clear HB
          have HO104 := n0_
          have BK101 := n1_
          have HB := n2_
          clear n0_ n1_ n2_
          obtain ⟨Ao19, co19, eo19⟩ := Kd.R_slice HO104.out
          (first | subst eo19 | (injection eo19 with f1_ f2_ f3_; have f4_ := f1_.symm; have f5_ := f3_.symm; clear f1_ f2_ f3_; subst f4_; subst f5_))
          refine start_ (n := 6) (S := fun w' => w'.cell? ⟨gb101, 0, none⟩ = some (.string a0_0) ∧ w'.cell? ⟨gb101, 1, none⟩ = some (.string a0_1)) (ds := []) #[false, false, false, false, false, false] (by kernel_rfl) rfl rfl ⟨(blk_cell BK101.out 0).trans rfl, (blk_cell BK101.out 1).trans rfl⟩ (fun hHeld => ?_)
          generalize w16.drew = w18 at HO104 BK101 HB hHeld ⊢
          refine pure_ (i := 0) (N := some 18) (v := ?_) (a' := ?_) #[true, false, false, false, false, false] rfl rfl (by kernel_rfl) (fun _ _ _ h => h) (Or.inl ⟨by rfl, ?_⟩) ?_ ?_
          rotate_left
          · intro w'
            go_simp
            with_reducible rfl
          rotate_left
          · simp only [Act.put, List.setIfInBounds_toArray, List.set_cons_zero, List.set_cons_succ, i64_w, i32_w]
            rfl
          refine pure_ (i := 2) (N := some 20) (v := ?_) (a' := ?_) #[true, false, true, false, false, false] rfl rfl (by kernel_rfl) (fun _ _ _ h => h) (Or.inl ⟨by rfl, ?_⟩) ?_ ?_
          rotate_left
          · intro w'
            go_simp
            with_reducible rfl
          rotate_left
          · simp only [Act.put, List.setIfInBounds_toArray, List.set_cons_zero, List.set_cons_succ, i64_w, i32_w]
            rfl
          refine take_ (i := 3) (N := some 21) (v := ?_) (a' := ?_) #[true, false, true, true, false, false] rfl rfl (by kernel_rfl) (fun _ _ _ h => h) (Or.inl ⟨by rfl, ?_⟩) hHeld ?_ ?_
          rotate_left
          · rintro w' ⟨s0, s1⟩
            go_simp
            with_reducible rfl
          rotate_left
          · simp only [Act.put, List.setIfInBounds_toArray, List.set_cons_zero, List.set_cons_succ, i64_w, i32_w]
            rfl
          refine one_ (i := 1) (N := some 19) #[true, true, true, true, false, false] rfl rfl (by kernel_rfl) (by decide) (fun K hK => ?_)
          refine goes_ Tryz.func118 (by kernel_rfl) rfl #[.slice Ao19 t102.length co19, .string (⟨#[32]⟩ : ByteArray)] (by rfl) rfl rfl (by (try simp only [List.map_toArray, List.map_cons, List.map_nil]); first | done | rfl | (simp only [List.length_drop, List.length_take]; rfl)) ?_
          with_reducible refine (GV.Join.calls _ _ t102 (⟨#[32]⟩ : ByteArray) t107 _ ?side1 ?side2 A11.out).mono ?_
          (case side1 => repeat (first | exact (Kd.R_reads' HO104.out).2.2 | (with_reducible refine Kd.C_alloc ?_ _) | (with_reducible refine Kd.C_drewN ?_ _) | (with_reducible refine Kd.C_drew ?_)))
          (case side2 => exact (Kd.R_reads' HO104.out).2.1)
          rintro e w20 ⟨rfl, hb⟩
          refine ⟨_, rfl, ?_⟩
          have n0_ := Aside0.mk (Kd.R_below (by (with_reducible repeat (first | apply Kd.R_alloc | apply Kd.R_drewN | apply Kd.R_drew)); exact HO104.out) hb)
          have n1_ := Aside0.mk (blk_below (g := gb101) (o := .cells #[.string a0_0, .string a0_1] 76 (0, 0)) (by (with_reducible repeat (first | refine blk_drewN ?_ _ | refine blk_drew ?_ | refine blk_alloc ?_ _)); exact BK101.out) hb)
          have n2_ := Aside0.mk (below_step (by repeat (first | (with_reducible first | exact HB.out | apply below_alloc | apply pw_below_drewN | apply below_drew1 | refine below_set ?_ GE101.out) | exact HB.out)) hb)
          clear HO104
          clear BK101
          clear HB
          have HO104 := n0_
          have BK101 := n1_
          have HB := n2_
          clear n0_ n1_ n2_
          (try clear hb)
          (try clear hb2)
          (try clear hk)
          (try clear hi)
          refine hK.out _ _ ⟨(blk_cell BK101.out 0).trans rfl, (blk_cell BK101.out 1).trans rfl⟩ (fun hHeld => ?_)
          clear hK K
          refine norm_ (a' := ?_) ?_ ?_
          rotate_left
          · show Act.put _ (some 19) _ = _
            simp only [Act.put, List.setIfInBounds_toArray, List.set_cons_zero, List.set_cons_succ, i64_w, i32_w]
            rfl
          refine pure_ (i := 4) (N := some 22) (v := ?_) (a' := ?_) #[true, true, true, true, true, false] rfl rfl (by kernel_rfl) (fun _ _ _ h => h) (Or.inl ⟨by rfl, ?_⟩) ?_ ?_
          rotate_left
          · intro w'
            go_simp
            with_reducible rfl
          rotate_left
          · simp only [Act.put, List.setIfInBounds_toArray, List.set_cons_zero, List.set_cons_succ, i64_w, i32_w]
            rfl
          refine pure_ (i := 5) (N := some 17) (v := ?_) (a' := ?_) #[true, true, true, true, true, true] rfl rfl (by kernel_rfl) (fun _ _ _ h => h) (Or.inl ⟨by rfl, ?_⟩) ?_ ?_
          rotate_left
          · intro w'
            go_simp
            with_reducible rfl
          rotate_left
          · simp only [Act.put, List.setIfInBounds_toArray, List.set_cons_zero, List.set_cons_succ, i64_w, i32_w]
            rfl
          refine done_ (by kernel_rfl) ?_
          have hcz21_0 : w20.cell? ⟨gb101, 0, none⟩ = some (.string a0_0) := (blk_cell BK101.out 0).trans rfl
          have hcz21_1 : w20.cell? ⟨gb101, 1, none⟩ = some (.string a0_1) := (blk_cell BK101.out 1).trans rfl
          have hfz21_0 := blk_frozen BK101.out 0
          have hfz21_1 := blk_frozen BK101.out 1
          try go_wp2
          go_ret
          exact ⟨by first | rfl | (simp [errW_none, errW_some] <;> rfl) | (simp [*, errW_none, errW_some] <;> rfl), by repeat (first | (with_reducible first | exact HB.out | apply below_alloc | apply pw_below_drewN | apply below_drew1 | refine below_set ?_ GE101.out) | exact HB.out)⟩
        · rw [if_neg c13] at H
          have c13b0 : decide (8192 < (a0_1.size : Int)) = false := decide_eq_false c13
          have c13b1 : decide (8192 < a0_1.size) = false := decide_eq_false (by omega)
          clear c13
          replace H := Option.bind_eq_some_iff.mp H
          obtain ⟨t108, A220, H⟩ := H
          replace H : (if t108 = true then (some 5) else (some 0)) = some r := H
          have A22 := Aside0.mk A220
          clear A220
          by_cases c23 : t108 = true
          · subst c23
            have H1 : (some 5) = some r := by rw [if_pos rfl] at H; exact H
            clear H
            have H := H1
            clear H1
            obtain rfl := Option.some.inj H
            go_enter Tryz.func89, Tryz.ntmps89
            try go_wp2_with (first | ((with_reducible refine gate_dst (N := 1) rfl ?_); refine box_event ?hg (N := 1) ?hd (cs := #[.string a0_0, .string a0_1]) (t := 76) ?hr ?_; (case hd => rfl); (case hg => rfl); (case hr => first | (go_simp; done) | (go_simp; rfl)); intro gb101 hg w24 hbox hb; have n0_ := Aside0.mk (below_step (by repeat (first | (with_reducible first | exact HB.out | apply below_alloc | apply pw_below_drewN | apply below_drew1) | exact HB.out)) hb); have n1_ := Aside0.mk (hbox); have n2_ := Aside0.mk ((by rw [hg]; exact (below_size (by repeat (first | (with_reducible first | exact HB.out | apply below_alloc | apply pw_below_drewN | apply below_drew1) | exact HB.out))) : w.heap.size ≤ gb101)); have n3_ := Aside0.mk ((by rw [hg]; exact (below_size (by repeat (first | (with_reducible first | exact HB.out | apply below_alloc | apply pw_below_drewN | apply below_drew1) | exact HB.out))) : w.heap.size ≤ gb101)); clear HB; have HB := n0_; have BK101 := n1_; have GW101 := n2_; have GE101 := n3_; clear n0_ n1_ n2_ n3_; clear hb hbox hg; have hcz25_0 : w24.cell? ⟨gb101, 0, none⟩ = some (.string a0_0) := (blk_cell BK101.out 0).trans rfl; have hcz25_1 : w24.cell? ⟨gb101, 1, none⟩ = some (.string a0_1) := (blk_cell BK101.out 1).trans rfl; have hfz25_0 := blk_frozen BK101.out 0; have hfz25_1 := blk_frozen BK101.out 1) | ((with_reducible refine gate_callee (f := 90) rfl ?_); refine goesL_ (some 6) rfl rfl Tryz.func90 (by kernel_rfl) rfl #[.string a0_1] rfl (by (try simp only [List.map_toArray, List.map_cons, List.map_nil]); first | done | rfl | (simp only [List.length_drop, List.length_take]; rfl)) ?_; (with_reducible refine (GV.Words.calls a0_1 t102 _ A2.out).mono ?_); rintro e w26 ⟨v103, rfl, ho0, hb⟩; refine ⟨_, rfl, ?_⟩; have n0_ := Aside0.mk (Kd.R_lower ho0 (below_size (by repeat (first | (with_reducible first | exact HB.out | apply below_alloc | apply pw_below_drewN | apply below_drew1 | refine below_set ?_ GE101.out) | exact HB.out)))); have n1_ := Aside0.mk (blk_below (g := gb101) (o := .cells #[.string a0_0, .string a0_1] 76 (0, 0)) (by (with_reducible repeat (first | refine blk_drewN ?_ _ | refine blk_drew ?_ | refine blk_alloc ?_ _)); exact BK101.out) hb); have n2_ := Aside0.mk (below_step (by repeat (first | (with_reducible first | exact HB.out | apply below_alloc | apply pw_below_drewN | apply below_drew1 | refine below_set ?_ GE101.out) | exact HB.out)) hb); clear BK101; clear HB; have HO104 := n0_; have BK101 := n1_; have HB := n2_; clear n0_ n1_ n2_; (try clear hb); (try clear hb2); (try clear hk); (try clear hi); (try clear ho0); have hcz27_0 : w26.cell? ⟨gb101, 0, none⟩ = some (.string a0_0) := (blk_cell BK101.out 0).trans rfl; have hcz27_1 : w26.cell? ⟨gb101, 1, none⟩ = some (.string a0_1) := (blk_cell BK101.out 1).trans rfl; have hfz27_0 := blk_frozen BK101.out 0; have hfz27_1 := blk_frozen BK101.out 1) | ((with_reducible refine gate_callee (f := 116) rfl ?_); refine goesL_ (some 10) rfl rfl Tryz.func116 (by kernel_rfl) rfl #[.string a0_0] rfl (by (try simp only [List.map_toArray, List.map_cons, List.map_nil]); first | done | rfl | (simp only [List.length_drop, List.length_take]; rfl)) ?_; (with_reducible refine (PA.field_ValidName.calls k a0_0 true _ A3.out).mono ?_); rintro e w' ⟨rfl, ⟨nd, rfl⟩⟩; refine ⟨_, rfl, ?_⟩) | ((with_reducible refine gate_callee (f := 117) rfl ?_); refine goesL_ (some 15) rfl rfl Tryz.func117 (by kernel_rfl) rfl #[.string a0_1] rfl (by (try simp only [List.map_toArray, List.map_cons, List.map_nil]); first | done | rfl | (simp only [List.length_drop, List.length_take]; rfl)) ?_; (with_reducible refine (GV.Printable.calls a0_1 t106 _ A5.out).mono ?_); rintro e w' ⟨rfl, ⟨nd, rfl⟩⟩; refine ⟨_, rfl, ?_⟩))
            (try (rw [drewN_self w26]; generalize hq_ : World.drewN w26 _ = w26; have n0_ : Aside0 (Kd.R Kd.string 9 w26 w.heap.size (fun _ => True) v103 t102) := ⟨by rw [← hq_]; exact (by (with_reducible repeat (first | apply Kd.R_alloc | apply Kd.R_drewN | apply Kd.R_drew)); exact HO104.out)⟩; have n1_ : Aside0 (w26.heap[gb101]? = some (.cells #[.string a0_0, .string a0_1] 76 (0, 0))) := ⟨by rw [← hq_]; exact (by (with_reducible repeat (first | refine blk_drewN ?_ _ | refine blk_drew ?_ | refine blk_alloc ?_ _)); exact BK101.out)⟩; have n2_ : Aside0 (Below w.heap.size w w26) := ⟨by rw [← hq_]; exact (by repeat (first | (with_reducible first | exact HB.out | apply below_alloc | apply pw_below_drewN | apply below_drew1 | refine below_set ?_ GE101.out) | exact HB.out))⟩; clear HO104 BK101 HB hq_; have HO104 := n0_; have BK101 := n1_; have HB := n2_; clear n0_ n1_ n2_))
            have n0_ := Aside0.mk (Kd.R_drew HO104.out)
            have n1_ := Aside0.mk (blk_drew BK101.out)
            have n2_ := Aside0.mk (below_drew1 HB.out)
            clear HO104
            clear BK101
            clear HB
            have HO104 := n0_
            have BK101 := n1_
            have HB := n2_
            clear n0_ n1_ n2_
            obtain ⟨Ao29, co29, eo29⟩ := Kd.R_slice HO104.out
            (first | subst eo29 | (injection eo29 with f1_ f2_ f3_; have f4_ := f1_.symm; have f5_ := f3_.symm; clear f1_ f2_ f3_; subst f4_; subst f5_))
            refine start_ (n := 6) (S := fun w' => w'.cell? ⟨gb101, 0, none⟩ = some (.string a0_0) ∧ w'.cell? ⟨gb101, 1, none⟩ = some (.string a0_1)) (ds := []) #[false, false, false, false, false, false] (by kernel_rfl) rfl rfl ⟨(blk_cell BK101.out 0).trans rfl, (blk_cell BK101.out 1).trans rfl⟩ (fun hHeld => ?_)
            generalize w26.drew = w28 at HO104 BK101 HB hHeld ⊢
            refine pure_ (i := 0) (N := some 18) (v := ?_) (a' := ?_) #[true, false, false, false, false, false] rfl rfl (by kernel_rfl) (fun _ _ _ h => h) (Or.inl ⟨by rfl, ?_⟩) ?_ ?_
            rotate_left
            · intro w'
              go_simp
              with_reducible rfl
            rotate_left
            · simp only [Act.put, List.setIfInBounds_toArray, List.set_cons_zero, List.set_cons_succ, i64_w, i32_w]
              rfl
            refine pure_ (i := 2) (N := some 20) (v := ?_) (a' := ?_) #[true, false, true, false, false, false] rfl rfl (by kernel_rfl) (fun _ _ _ h => h) (Or.inl ⟨by rfl, ?_⟩) ?_ ?_
            rotate_left
            · intro w'
              go_simp
              with_reducible rfl
            rotate_left
            · simp only [Act.put, List.setIfInBounds_toArray, List.set_cons_zero, List.set_cons_succ, i64_w, i32_w]
              rfl
            refine take_ (i := 3) (N := some 21) (v := ?_) (a' := ?_) #[true, false, true, true, false, false] rfl rfl (by kernel_rfl) (fun _ _ _ h => h) (Or.inl ⟨by rfl, ?_⟩) hHeld ?_ ?_
            rotate_left
            · rintro w' ⟨s0, s1⟩
              go_simp
              with_reducible rfl
            rotate_left
            · simp only [Act.put, List.setIfInBounds_toArray, List.set_cons_zero, List.set_cons_succ, i64_w, i32_w]
              rfl
            refine one_ (i := 1) (N := some 19) #[true, true, true, true, false, false] rfl rfl (by kernel_rfl) (by decide) (fun K hK => ?_)
            refine goes_ Tryz.func118 (by kernel_rfl) rfl #[.slice Ao29 t102.length co29, .string (⟨#[32]⟩ : ByteArray)] (by rfl) rfl rfl (by (try simp only [List.map_toArray, List.map_cons, List.map_nil]); first | done | rfl | (simp only [List.length_drop, List.length_take]; rfl)) ?_
            with_reducible refine (GV.Join.calls _ _ t102 (⟨#[32]⟩ : ByteArray) t107 _ ?side1 ?side2 A11.out).mono ?_
            (case side1 => repeat (first | exact (Kd.R_reads' HO104.out).2.2 | (with_reducible refine Kd.C_alloc ?_ _) | (with_reducible refine Kd.C_drewN ?_ _) | (with_reducible refine Kd.C_drew ?_)))
            (case side2 => exact (Kd.R_reads' HO104.out).2.1)
            rintro e w30 ⟨rfl, hb⟩
            refine ⟨_, rfl, ?_⟩
            have n0_ := Aside0.mk (Kd.R_below (by (with_reducible repeat (first | apply Kd.R_alloc | apply Kd.R_drewN | apply Kd.R_drew)); exact HO104.out) hb)
            have n1_ := Aside0.mk (blk_below (g := gb101) (o := .cells #[.string a0_0, .string a0_1] 76 (0, 0)) (by (with_reducible repeat (first | refine blk_drewN ?_ _ | refine blk_drew ?_ | refine blk_alloc ?_ _)); exact BK101.out) hb)
            have n2_ := Aside0.mk (below_step (by repeat (first | (with_reducible first | exact HB.out | apply below_alloc | apply pw_below_drewN | apply below_drew1 | refine below_set ?_ GE101.out) | exact HB.out)) hb)
            clear HO104
            clear BK101
            clear HB
            have HO104 := n0_
            have BK101 := n1_
            have HB := n2_
            clear n0_ n1_ n2_
            (try clear hb)
            (try clear hb2)
            (try clear hk)
            (try clear hi)
            refine hK.out _ _ ⟨(blk_cell BK101.out 0).trans rfl, (blk_cell BK101.out 1).trans rfl⟩ (fun hHeld => ?_)
            clear hK K
            refine norm_ (a' := ?_) ?_ ?_
            rotate_left
            · show Act.put _ (some 19) _ = _
              simp only [Act.put, List.setIfInBounds_toArray, List.set_cons_zero, List.set_cons_succ, i64_w, i32_w]
              rfl
            refine pure_ (i := 4) (N := some 22) (v := ?_) (a' := ?_) #[true, true, true, true, true, false] rfl rfl (by kernel_rfl) (fun _ _ _ h => h) (Or.inl ⟨by rfl, ?_⟩) ?_ ?_
            rotate_left
            · intro w'
              go_simp
              with_reducible rfl
            rotate_left
            · simp only [Act.put, List.setIfInBounds_toArray, List.set_cons_zero, List.set_cons_succ, i64_w, i32_w]
              rfl
            refine pure_ (i := 5) (N := some 17) (v := ?_) (a' := ?_) #[true, true, true, true, true, true] rfl rfl (by kernel_rfl) (fun _ _ _ h => h) (Or.inl ⟨by rfl, ?_⟩) ?_ ?_
            rotate_left
            · intro w'
              go_simp
              with_reducible rfl
            rotate_left
            · simp only [Act.put, List.setIfInBounds_toArray, List.set_cons_zero, List.set_cons_succ, i64_w, i32_w]
              rfl
            refine done_ (by kernel_rfl) ?_
            have hcz31_0 : w30.cell? ⟨gb101, 0, none⟩ = some (.string a0_0) := (blk_cell BK101.out 0).trans rfl
            have hcz31_1 : w30.cell? ⟨gb101, 1, none⟩ = some (.string a0_1) := (blk_cell BK101.out 1).trans rfl
            have hfz31_0 := blk_frozen BK101.out 0
            have hfz31_1 := blk_frozen BK101.out 1
            try go_wp2_with (first | (go_at_call 119; (with_reducible refine (GV.someLong.calls _ _ t102 (Value.func (.func 120) #[] #[]) true _ ?side1 ?side2 A22.out).mono ?_); (case side1 => repeat (first | exact (Kd.R_reads' HO104.out).2.2 | (with_reducible refine Kd.C_alloc ?_ _) | (with_reducible refine Kd.C_drewN ?_ _) | (with_reducible refine Kd.C_drew ?_))); (case side2 => exact (Kd.R_reads' HO104.out).2.1); rintro e w' ⟨rfl, ⟨nd, rfl⟩⟩))
            go_ret
            exact ⟨by first | rfl | (simp [errW_none, errW_some] <;> rfl) | (simp [*, errW_none, errW_some] <;> rfl), by repeat (first | (with_reducible first | exact HB.out | apply below_alloc | apply pw_below_drewN | apply below_drew1 | refine below_set ?_ GE101.out) | exact HB.out)⟩
          · replace c23 := Bool.eq_false_iff.mpr c23
            subst c23
            have H1 : (some 0) = some r := by rw [if_neg (show ¬ (false = true) by decide)] at H; exact H
            clear H
            have H := H1
            clear H1
            obtain rfl := Option.some.inj H
            go_enter Tryz.func89, Tryz.ntmps89
            try go_wp2_with (first | ((with_reducible refine gate_dst (N := 1) rfl ?_); refine box_event ?hg (N := 1) ?hd (cs := #[.string a0_0, .string a0_1]) (t := 76) ?hr ?_; (case hd => rfl); (case hg => rfl); (case hr => first | (go_simp; done) | (go_simp; rfl)); intro gb101 hg w32 hbox hb; have n0_ := Aside0.mk (below_step (by repeat (first | (with_reducible first | exact HB.out | apply below_alloc | apply pw_below_drewN | apply below_drew1) | exact HB.out)) hb); have n1_ := Aside0.mk (hbox); have n2_ := Aside0.mk ((by rw [hg]; exact (below_size (by repeat (first | (with_reducible first | exact HB.out | apply below_alloc | apply pw_below_drewN | apply below_drew1) | exact HB.out))) : w.heap.size ≤ gb101)); have n3_ := Aside0.mk ((by rw [hg]; exact (below_size (by repeat (first | (with_reducible first | exact HB.out | apply below_alloc | apply pw_below_drewN | apply below_drew1) | exact HB.out))) : w.heap.size ≤ gb101)); clear HB; have HB := n0_; have BK101 := n1_; have GW101 := n2_; have GE101 := n3_; clear n0_ n1_ n2_ n3_; clear hb hbox hg; have hcz33_0 : w32.cell? ⟨gb101, 0, none⟩ = some (.string a0_0) := (blk_cell BK101.out 0).trans rfl; have hcz33_1 : w32.cell? ⟨gb101, 1, none⟩ = some (.string a0_1) := (blk_cell BK101.out 1).trans rfl; have hfz33_0 := blk_frozen BK101.out 0; have hfz33_1 := blk_frozen BK101.out 1) | ((with_reducible refine gate_callee (f := 90) rfl ?_); refine goesL_ (some 6) rfl rfl Tryz.func90 (by kernel_rfl) rfl #[.string a0_1] rfl (by (try simp only [List.map_toArray, List.map_cons, List.map_nil]); first | done | rfl | (simp only [List.length_drop, List.length_take]; rfl)) ?_; (with_reducible refine (GV.Words.calls a0_1 t102 _ A2.out).mono ?_); rintro e w34 ⟨v103, rfl, ho0, hb⟩; refine ⟨_, rfl, ?_⟩; have n0_ := Aside0.mk (Kd.R_lower ho0 (below_size (by repeat (first | (with_reducible first | exact HB.out | apply below_alloc | apply pw_below_drewN | apply below_drew1 | refine below_set ?_ GE101.out) | exact HB.out)))); have n1_ := Aside0.mk (blk_below (g := gb101) (o := .cells #[.string a0_0, .string a0_1] 76 (0, 0)) (by (with_reducible repeat (first | refine blk_drewN ?_ _ | refine blk_drew ?_ | refine blk_alloc ?_ _)); exact BK101.out) hb); have n2_ := Aside0.mk (below_step (by repeat (first | (with_reducible first | exact HB.out | apply below_alloc | apply pw_below_drewN | apply below_drew1 | refine below_set ?_ GE101.out) | exact HB.out)) hb); clear BK101; clear HB; have HO104 := n0_; have BK101 := n1_; have HB := n2_; clear n0_ n1_ n2_; (try clear hb); (try clear hb2); (try clear hk); (try clear hi); (try clear ho0); have hcz35_0 : w34.cell? ⟨gb101, 0, none⟩ = some (.string a0_0) := (blk_cell BK101.out 0).trans rfl; have hcz35_1 : w34.cell? ⟨gb101, 1, none⟩ = some (.string a0_1) := (blk_cell BK101.out 1).trans rfl; have hfz35_0 := blk_frozen BK101.out 0; have hfz35_1 := blk_frozen BK101.out 1) | ((with_reducible refine gate_callee (f := 116) rfl ?_); refine goesL_ (some 10) rfl rfl Tryz.func116 (by kernel_rfl) rfl #[.string a0_0] rfl (by (try simp only [List.map_toArray, List.map_cons, List.map_nil]); first | done | rfl | (simp only [List.length_drop, List.length_take]; rfl)) ?_; (with_reducible refine (PA.field_ValidName.calls k a0_0 true _ A3.out).mono ?_); rintro e w' ⟨rfl, ⟨nd, rfl⟩⟩; refine ⟨_, rfl, ?_⟩) | ((with_reducible refine gate_callee (f := 117) rfl ?_); refine goesL_ (some 15) rfl rfl Tryz.func117 (by kernel_rfl) rfl #[.string a0_1] rfl (by (try simp only [List.map_toArray, List.map_cons, List.map_nil]); first | done | rfl | (simp only [List.length_drop, List.length_take]; rfl)) ?_; (with_reducible refine (GV.Printable.calls a0_1 t106 _ A5.out).mono ?_); rintro e w' ⟨rfl, ⟨nd, rfl⟩⟩; refine ⟨_, rfl, ?_⟩))
            (try (rw [drewN_self w34]; generalize hq_ : World.drewN w34 _ = w34; have n0_ : Aside0 (Kd.R Kd.string 9 w34 w.heap.size (fun _ => True) v103 t102) := ⟨by rw [← hq_]; exact (by (with_reducible repeat (first | apply Kd.R_alloc | apply Kd.R_drewN | apply Kd.R_drew)); exact HO104.out)⟩; have n1_ : Aside0 (w34.heap[gb101]? = some (.cells #[.string a0_0, .string a0_1] 76 (0, 0))) := ⟨by rw [← hq_]; exact (by (with_reducible repeat (first | refine blk_drewN ?_ _ | refine blk_drew ?_ | refine blk_alloc ?_ _)); exact BK101.out)⟩; have n2_ : Aside0 (Below w.heap.size w w34) := ⟨by rw [← hq_]; exact (by repeat (first | (with_reducible first | exact HB.out | apply below_alloc | apply pw_below_drewN | apply below_drew1 | refine below_set ?_ GE101.out) | exact HB.out))⟩; clear HO104 BK101 HB hq_; have HO104 := n0_; have BK101 := n1_; have HB := n2_; clear n0_ n1_ n2_))
            have n0_ := Aside0.mk (Kd.R_drew HO104.out)
            have n1_ := Aside0.mk (blk_drew BK101.out)
            have n2_ := Aside0.mk (below_drew1 HB.out)
            clear HO104
            clear BK101
            clear HB
            have HO104 := n0_
            have BK101 := n1_
            have HB := n2_
            clear n0_ n1_ n2_
            obtain ⟨Ao37, co37, eo37⟩ := Kd.R_slice HO104.out
            (first | subst eo37 | (injection eo37 with f1_ f2_ f3_; have f4_ := f1_.symm; have f5_ := f3_.symm; clear f1_ f2_ f3_; subst f4_; subst f5_))
            refine start_ (n := 6) (S := fun w' => w'.cell? ⟨gb101, 0, none⟩ = some (.string a0_0) ∧ w'.cell? ⟨gb101, 1, none⟩ = some (.string a0_1)) (ds := []) #[false, false, false, false, false, false] (by kernel_rfl) rfl rfl ⟨(blk_cell BK101.out 0).trans rfl, (blk_cell BK101.out 1).trans rfl⟩ (fun hHeld => ?_)
            generalize w34.drew = w36 at HO104 BK101 HB hHeld ⊢
            refine pure_ (i := 0) (N := some 18) (v := ?_) (a' := ?_) #[true, false, false, false, false, false] rfl rfl (by kernel_rfl) (fun _ _ _ h => h) (Or.inl ⟨by rfl, ?_⟩) ?_ ?_
            rotate_left
            · intro w'
              go_simp
              with_reducible rfl
            rotate_left
            · simp only [Act.put, List.setIfInBounds_toArray, List.set_cons_zero, List.set_cons_succ, i64_w, i32_w]
              rfl
            refine pure_ (i := 2) (N := some 20) (v := ?_) (a' := ?_) #[true, false, true, false, false, false] rfl rfl (by kernel_rfl) (fun _ _ _ h => h) (Or.inl ⟨by rfl, ?_⟩) ?_ ?_
            rotate_left
            · intro w'
              go_simp
              with_reducible rfl
            rotate_left
            · simp only [Act.put, List.setIfInBounds_toArray, List.set_cons_zero, List.set_cons_succ, i64_w, i32_w]
              rfl
            refine take_ (i := 3) (N := some 21) (v := ?_) (a' := ?_) #[true, false, true, true, false, false] rfl rfl (by kernel_rfl) (fun _ _ _ h => h) (Or.inl ⟨by rfl, ?_⟩) hHeld ?_ ?_
            rotate_left
            · rintro w' ⟨s0, s1⟩
              go_simp
              with_reducible rfl
            rotate_left
            · simp only [Act.put, List.setIfInBounds_toArray, List.set_cons_zero, List.set_cons_succ, i64_w, i32_w]
              rfl
            refine one_ (i := 1) (N := some 19) #[true, true, true, true, false, false] rfl rfl (by kernel_rfl) (by decide) (fun K hK => ?_)
            refine goes_ Tryz.func118 (by kernel_rfl) rfl #[.slice Ao37 t102.length co37, .string (⟨#[32]⟩ : ByteArray)] (by rfl) rfl rfl (by (try simp only [List.map_toArray, List.map_cons, List.map_nil]); first | done | rfl | (simp only [List.length_drop, List.length_take]; rfl)) ?_
            with_reducible refine (GV.Join.calls _ _ t102 (⟨#[32]⟩ : ByteArray) t107 _ ?side1 ?side2 A11.out).mono ?_
            (case side1 => repeat (first | exact (Kd.R_reads' HO104.out).2.2 | (with_reducible refine Kd.C_alloc ?_ _) | (with_reducible refine Kd.C_drewN ?_ _) | (with_reducible refine Kd.C_drew ?_)))
            (case side2 => exact (Kd.R_reads' HO104.out).2.1)
            rintro e w38 ⟨rfl, hb⟩
            refine ⟨_, rfl, ?_⟩
            have n0_ := Aside0.mk (Kd.R_below (by (with_reducible repeat (first | apply Kd.R_alloc | apply Kd.R_drewN | apply Kd.R_drew)); exact HO104.out) hb)
            have n1_ := Aside0.mk (blk_below (g := gb101) (o := .cells #[.string a0_0, .string a0_1] 76 (0, 0)) (by (with_reducible repeat (first | refine blk_drewN ?_ _ | refine blk_drew ?_ | refine blk_alloc ?_ _)); exact BK101.out) hb)
            have n2_ := Aside0.mk (below_step (by repeat (first | (with_reducible first | exact HB.out | apply below_alloc | apply pw_below_drewN | apply below_drew1 | refine below_set ?_ GE101.out) | exact HB.out)) hb)
            clear HO104
            clear BK101
            clear HB
            have HO104 := n0_
            have BK101 := n1_
            have HB := n2_
            clear n0_ n1_ n2_
            (try clear hb)
            (try clear hb2)
            (try clear hk)
            (try clear hi)
            refine hK.out _ _ ⟨(blk_cell BK101.out 0).trans rfl, (blk_cell BK101.out 1).trans rfl⟩ (fun hHeld => ?_)
            clear hK K
            refine norm_ (a' := ?_) ?_ ?_
            rotate_left
            · show Act.put _ (some 19) _ = _
              simp only [Act.put, List.setIfInBounds_toArray, List.set_cons_zero, List.set_cons_succ, i64_w, i32_w]
              rfl
            refine pure_ (i := 4) (N := some 22) (v := ?_) (a' := ?_) #[true, true, true, true, true, false] rfl rfl (by kernel_rfl) (fun _ _ _ h => h) (Or.inl ⟨by rfl, ?_⟩) ?_ ?_
            rotate_left
            · intro w'
              go_simp
              with_reducible rfl
            rotate_left
            · simp only [Act.put, List.setIfInBounds_toArray, List.set_cons_zero, List.set_cons_succ, i64_w, i32_w]
              rfl
            refine pure_ (i := 5) (N := some 17) (v := ?_) (a' := ?_) #[true, true, true, true, true, true] rfl rfl (by kernel_rfl) (fun _ _ _ h => h) (Or.inl ⟨by rfl, ?_⟩) ?_ ?_
            rotate_left
            · intro w'
              go_simp
              with_reducible rfl
            rotate_left
            · simp only [Act.put, List.setIfInBounds_toArray, List.set_cons_zero, List.set_cons_succ, i64_w, i32_w]
              rfl
            refine done_ (by kernel_rfl) ?_
            have hcz39_0 : w38.cell? ⟨gb101, 0, none⟩ = some (.string a0_0) := (blk_cell BK101.out 0).trans rfl
            have hcz39_1 : w38.cell? ⟨gb101, 1, none⟩ = some (.string a0_1) := (blk_cell BK101.out 1).trans rfl
            have hfz39_0 := blk_frozen BK101.out 0
            have hfz39_1 := blk_frozen BK101.out 1
            try go_wp2_with (first | (go_at_call 119; (with_reducible refine (GV.someLong.calls _ _ t102 (Value.func (.func 120) #[] #[]) false _ ?side1 ?side2 A22.out).mono ?_); (case side1 => repeat (first | exact (Kd.R_reads' HO104.out).2.2 | (with_reducible refine Kd.C_alloc ?_ _) | (with_reducible refine Kd.C_drewN ?_ _) | (with_reducible refine Kd.C_drew ?_))); (case side2 => exact (Kd.R_reads' HO104.out).2.1); rintro e w' ⟨rfl, ⟨nd, rfl⟩⟩))
            go_ret
            exact ⟨by first | rfl | (simp [errW_none, errW_some] <;> rfl) | (simp [*, errW_none, errW_some] <;> rfl), by repeat (first | (with_reducible first | exact HB.out | apply below_alloc | apply pw_below_drewN | apply below_drew1 | refine below_set ?_ GE101.out) | exact HB.out)⟩
      · rw [if_neg c12] at H
        have c12b0 : (t107.toList == a0_1.toList) = false := beq_eq_false_iff_ne.mpr c12
        have c12b1 : (t107.toList != a0_1.toList) = true := bne_iff_ne.mpr c12
        obtain rfl := Option.some.inj H
        go_enter Tryz.func89, Tryz.ntmps89
        try go_wp2_with (first | ((with_reducible refine gate_dst (N := 1) rfl ?_); refine box_event ?hg (N := 1) ?hd (cs := #[.string a0_0, .string a0_1]) (t := 76) ?hr ?_; (case hd => rfl); (case hg => rfl); (case hr => first | (go_simp; done) | (go_simp; rfl)); intro gb101 hg w40 hbox hb; have n0_ := Aside0.mk (below_step (by repeat (first | (with_reducible first | exact HB.out | apply below_alloc | apply pw_below_drewN | apply below_drew1) | exact HB.out)) hb); have n1_ := Aside0.mk (hbox); have n2_ := Aside0.mk ((by rw [hg]; exact (below_size (by repeat (first | (with_reducible first | exact HB.out | apply below_alloc | apply pw_below_drewN | apply below_drew1) | exact HB.out))) : w.heap.size ≤ gb101)); have n3_ := Aside0.mk ((by rw [hg]; exact (below_size (by repeat (first | (with_reducible first | exact HB.out | apply below_alloc | apply pw_below_drewN | apply below_drew1) | exact HB.out))) : w.heap.size ≤ gb101)); clear HB; have HB := n0_; have BK101 := n1_; have GW101 := n2_; have GE101 := n3_; clear n0_ n1_ n2_ n3_; clear hb hbox hg; have hcz41_0 : w40.cell? ⟨gb101, 0, none⟩ = some (.string a0_0) := (blk_cell BK101.out 0).trans rfl; have hcz41_1 : w40.cell? ⟨gb101, 1, none⟩ = some (.string a0_1) := (blk_cell BK101.out 1).trans rfl; have hfz41_0 := blk_frozen BK101.out 0; have hfz41_1 := blk_frozen BK101.out 1) | ((with_reducible refine gate_callee (f := 90) rfl ?_); refine goesL_ (some 6) rfl rfl Tryz.func90 (by kernel_rfl) rfl #[.string a0_1] rfl (by (try simp only [List.map_toArray, List.map_cons, List.map_nil]); first | done | rfl | (simp only [List.length_drop, List.length_take]; rfl)) ?_; (with_reducible refine (GV.Words.calls a0_1 t102 _ A2.out).mono ?_); rintro e w42 ⟨v103, rfl, ho0, hb⟩; refine ⟨_, rfl, ?_⟩; have n0_ := Aside0.mk (Kd.R_lower ho0 (below_size (by repeat (first | (with_reducible first | exact HB.out | apply below_alloc | apply pw_below_drewN | apply below_drew1 | refine below_set ?_ GE101.out) | exact HB.out)))); have n1_ := Aside0.mk (blk_below (g := gb101) (o := .cells #[.string a0_0, .string a0_1] 76 (0, 0)) (by (with_reducible repeat (first | refine blk_drewN ?_ _ | refine blk_drew ?_ | refine blk_alloc ?_ _)); exact BK101.out) hb); have n2_ := Aside0.mk (below_step (by repeat (first | (with_reducible first | exact HB.out | apply below_alloc | apply pw_below_drewN | apply below_drew1 | refine below_set ?_ GE101.out) | exact HB.out)) hb); clear BK101; clear HB; have HO104 := n0_; have BK101 := n1_; have HB := n2_; clear n0_ n1_ n2_; (try clear hb); (try clear hb2); (try clear hk); (try clear hi); (try clear ho0); have hcz43_0 : w42.cell? ⟨gb101, 0, none⟩ = some (.string a0_0) := (blk_cell BK101.out 0).trans rfl; have hcz43_1 : w42.cell? ⟨gb101, 1, none⟩ = some (.string a0_1) := (blk_cell BK101.out 1).trans rfl; have hfz43_0 := blk_frozen BK101.out 0; have hfz43_1 := blk_frozen BK101.out 1) | ((with_reducible refine gate_callee (f := 116) rfl ?_); refine goesL_ (some 10) rfl rfl Tryz.func116 (by kernel_rfl) rfl #[.string a0_0] rfl (by (try simp only [List.map_toArray, List.map_cons, List.map_nil]); first | done | rfl | (simp only [List.length_drop, List.length_take]; rfl)) ?_; (with_reducible refine (PA.field_ValidName.calls k a0_0 true _ A3.out).mono ?_); rintro e w' ⟨rfl, ⟨nd, rfl⟩⟩; refine ⟨_, rfl, ?_⟩) | ((with_reducible refine gate_callee (f := 117) rfl ?_); refine goesL_ (some 15) rfl rfl Tryz.func117 (by kernel_rfl) rfl #[.string a0_1] rfl (by (try simp only [List.map_toArray, List.map_cons, List.map_nil]); first | done | rfl | (simp only [List.length_drop, List.length_take]; rfl)) ?_; (with_reducible refine (GV.Printable.calls a0_1 t106 _ A5.out).mono ?_); rintro e w' ⟨rfl, ⟨nd, rfl⟩⟩; refine ⟨_, rfl, ?_⟩))
        (try (rw [drewN_self w42]; generalize hq_ : World.drewN w42 _ = w42; have n0_ : Aside0 (Kd.R Kd.string 9 w42 w.heap.size (fun _ => True) v103 t102) := ⟨by rw [← hq_]; exact (by (with_reducible repeat (first | apply Kd.R_alloc | apply Kd.R_drewN | apply Kd.R_drew)); exact HO104.out)⟩; have n1_ : Aside0 (w42.heap[gb101]? = some (.cells #[.string a0_0, .string a0_1] 76 (0, 0))) := ⟨by rw [← hq_]; exact (by (with_reducible repeat (first | refine blk_drewN ?_ _ | refine blk_drew ?_ | refine blk_alloc ?_ _)); exact BK101.out)⟩; have n2_ : Aside0 (Below w.heap.size w w42) := ⟨by rw [← hq_]; exact (by repeat (first | (with_reducible first | exact HB.out | apply below_alloc | apply pw_below_drewN | apply below_drew1 | refine below_set ?_ GE101.out) | exact HB.out))⟩; clear HO104 BK101 HB hq_; have HO104 := n0_; have BK101 := n1_; have HB := n2_; clear n0_ n1_ n2_))
        have n0_ := Aside0.mk (Kd.R_drew HO104.out)
        have n1_ := Aside0.mk (blk_drew BK101.out)
        have n2_ := Aside0.mk (below_drew1 HB.out)
        clear HO104
        clear BK101
        clear HB
        have HO104 := n0_
        have BK101 := n1_
        have HB := n2_
        clear n0_ n1_ n2_
        obtain ⟨Ao45, co45, eo45⟩ := Kd.R_slice HO104.out
        (first | subst eo45 | (injection eo45 with f1_ f2_ f3_; have f4_ := f1_.symm; have f5_ := f3_.symm; clear f1_ f2_ f3_; subst f4_; subst f5_))
        refine start_ (n := 6) (S := fun w' => w'.cell? ⟨gb101, 0, none⟩ = some (.string a0_0) ∧ w'.cell? ⟨gb101, 1, none⟩ = some (.string a0_1)) (ds := []) #[false, false, false, false, false, false] (by kernel_rfl) rfl rfl ⟨(blk_cell BK101.out 0).trans rfl, (blk_cell BK101.out 1).trans rfl⟩ (fun hHeld => ?_)
        generalize w42.drew = w44 at HO104 BK101 HB hHeld ⊢
        refine pure_ (i := 0) (N := some 18) (v := ?_) (a' := ?_) #[true, false, false, false, false, false] rfl rfl (by kernel_rfl) (fun _ _ _ h => h) (Or.inl ⟨by rfl, ?_⟩) ?_ ?_
        rotate_left
        · intro w'
          go_simp
          with_reducible rfl
        rotate_left
        · simp only [Act.put, List.setIfInBounds_toArray, List.set_cons_zero, List.set_cons_succ, i64_w, i32_w]
          rfl
        refine pure_ (i := 2) (N := some 20) (v := ?_) (a' := ?_) #[true, false, true, false, false, false] rfl rfl (by kernel_rfl) (fun _ _ _ h => h) (Or.inl ⟨by rfl, ?_⟩) ?_ ?_
        rotate_left
        · intro w'
          go_simp
          with_reducible rfl
        rotate_left
        · simp only [Act.put, List.setIfInBounds_toArray, List.set_cons_zero, List.set_cons_succ, i64_w, i32_w]
          rfl
        refine take_ (i := 3) (N := some 21) (v := ?_) (a' := ?_) #[true, false, true, true, false, false] rfl rfl (by kernel_rfl) (fun _ _ _ h => h) (Or.inl ⟨by rfl, ?_⟩) hHeld ?_ ?_
        rotate_left
        · rintro w' ⟨s0, s1⟩
          go_simp
          with_reducible rfl
        rotate_left
        · simp only [Act.put, List.setIfInBounds_toArray, List.set_cons_zero, List.set_cons_succ, i64_w, i32_w]
          rfl
        refine one_ (i := 1) (N := some 19) #[true, true, true, true, false, false] rfl rfl (by kernel_rfl) (by decide) (fun K hK => ?_)
        refine goes_ Tryz.func118 (by kernel_rfl) rfl #[.slice Ao45 t102.length co45, .string (⟨#[32]⟩ : ByteArray)] (by rfl) rfl rfl (by (try simp only [List.map_toArray, List.map_cons, List.map_nil]); first | done | rfl | (simp only [List.length_drop, List.length_take]; rfl)) ?_
        with_reducible refine (GV.Join.calls _ _ t102 (⟨#[32]⟩ : ByteArray) t107 _ ?side1 ?side2 A11.out).mono ?_
        (case side1 => repeat (first | exact (Kd.R_reads' HO104.out).2.2 | (with_reducible refine Kd.C_alloc ?_ _) | (with_reducible refine Kd.C_drewN ?_ _) | (with_reducible refine Kd.C_drew ?_)))
        (case side2 => exact (Kd.R_reads' HO104.out).2.1)
        rintro e w46 ⟨rfl, hb⟩
        refine ⟨_, rfl, ?_⟩
        have n0_ := Aside0.mk (Kd.R_below (by (with_reducible repeat (first | apply Kd.R_alloc | apply Kd.R_drewN | apply Kd.R_drew)); exact HO104.out) hb)
        have n1_ := Aside0.mk (blk_below (g := gb101) (o := .cells #[.string a0_0, .string a0_1] 76 (0, 0)) (by (with_reducible repeat (first | refine blk_drewN ?_ _ | refine blk_drew ?_ | refine blk_alloc ?_ _)); exact BK101.out) hb)
        have n2_ := Aside0.mk (below_step (by repeat (first | (with_reducible first | exact HB.out | apply below_alloc | apply pw_below_drewN | apply below_drew1 | refine below_set ?_ GE101.out) | exact HB.out)) hb)
        clear HO104
        clear BK101
        clear HB
        have HO104 := n0_
        have BK101 := n1_
        have HB := n2_
        clear n0_ n1_ n2_
        (try clear hb)
        (try clear hb2)
        (try clear hk)
        (try clear hi)
        refine hK.out _ _ ⟨(blk_cell BK101.out 0).trans rfl, (blk_cell BK101.out 1).trans rfl⟩ (fun hHeld => ?_)
        clear hK K
        refine norm_ (a' := ?_) ?_ ?_
        rotate_left
        · show Act.put _ (some 19) _ = _
          simp only [Act.put, List.setIfInBounds_toArray, List.set_cons_zero, List.set_cons_succ, i64_w, i32_w]
          rfl
        refine pure_ (i := 4) (N := some 22) (v := ?_) (a' := ?_) #[true, true, true, true, true, false] rfl rfl (by kernel_rfl) (fun _ _ _ h => h) (Or.inl ⟨by rfl, ?_⟩) ?_ ?_
        rotate_left
        · intro w'
          go_simp
          with_reducible rfl
        rotate_left
        · simp only [Act.put, List.setIfInBounds_toArray, List.set_cons_zero, List.set_cons_succ, i64_w, i32_w]
          rfl
        refine pure_ (i := 5) (N := some 17) (v := ?_) (a' := ?_) #[true, true, true, true, true, true] rfl rfl (by kernel_rfl) (fun _ _ _ h => h) (Or.inl ⟨by rfl, ?_⟩) ?_ ?_
        rotate_left
        · intro w'
          go_simp
          with_reducible rfl
        rotate_left
        · simp only [Act.put, List.setIfInBounds_toArray, List.set_cons_zero, List.set_cons_succ, i64_w, i32_w]
          rfl
        refine done_ (by kernel_rfl) ?_
        try go_wp2
        go_ret
        exact ⟨by first | rfl | (simp [errW_none, errW_some] <;> rfl) | (simp [*, errW_none, errW_some] <;> rfl), by repeat (first | (with_reducible first | exact HB.out | apply below_alloc | apply pw_below_drewN | apply below_drew1 | refine below_set ?_ GE101.out) | exact HB.out)⟩
  · replace c4 := Bool.eq_false_iff.mpr c4
    subst c4
    have H1 : (some 12) = some r := by rw [if_neg (show ¬ (false = true) by decide)] at H; exact H
    clear H
    have H := H1
    clear H1
    obtain rfl := Option.some.inj H
    go_enter Tryz.func89, Tryz.ntmps89
    go_wp2_with (first | ((with_reducible refine gate_dst (N := 1) rfl ?_); refine box_event ?hg (N := 1) ?hd (cs := #[.string a0_0, .string a0_1]) (t := 76) ?hr ?_; (case hd => rfl); (case hg => rfl); (case hr => first | (go_simp; done) | (go_simp; rfl)); intro gb101 hg w47 hbox hb; have n0_ := Aside0.mk (below_step (by repeat (first | (with_reducible first | exact HB.out | apply below_alloc | apply pw_below_drewN | apply below_drew1) | exact HB.out)) hb); have n1_ := Aside0.mk (hbox); have n2_ := Aside0.mk ((by rw [hg]; exact (below_size (by repeat (first | (with_reducible first | exact HB.out | apply below_alloc | apply pw_below_drewN | apply below_drew1) | exact HB.out))) : w.heap.size ≤ gb101)); have n3_ := Aside0.mk ((by rw [hg]; exact (below_size (by repeat (first | (with_reducible first | exact HB.out | apply below_alloc | apply pw_below_drewN | apply below_drew1) | exact HB.out))) : w.heap.size ≤ gb101)); clear HB; have HB := n0_; have BK101 := n1_; have GW101 := n2_; have GE101 := n3_; clear n0_ n1_ n2_ n3_; clear hb hbox hg; have hcz48_0 : w47.cell? ⟨gb101, 0, none⟩ = some (.string a0_0) := (blk_cell BK101.out 0).trans rfl; have hcz48_1 : w47.cell? ⟨gb101, 1, none⟩ = some (.string a0_1) := (blk_cell BK101.out 1).trans rfl; have hfz48_0 := blk_frozen BK101.out 0; have hfz48_1 := blk_frozen BK101.out 1) | ((with_reducible refine gate_callee (f := 90) rfl ?_); refine goesL_ (some 6) rfl rfl Tryz.func90 (by kernel_rfl) rfl #[.string a0_1] rfl (by (try simp only [List.map_toArray, List.map_cons, List.map_nil]); first | done | rfl | (simp only [List.length_drop, List.length_take]; rfl)) ?_; (with_reducible refine (GV.Words.calls a0_1 t102 _ A2.out).mono ?_); rintro e w49 ⟨v103, rfl, ho0, hb⟩; refine ⟨_, rfl, ?_⟩; have n0_ := Aside0.mk (Kd.R_lower ho0 (below_size (by repeat (first | (with_reducible first | exact HB.out | apply below_alloc | apply pw_below_drewN | apply below_drew1 | refine below_set ?_ GE101.out) | exact HB.out)))); have n1_ := Aside0.mk (blk_below (g := gb101) (o := .cells #[.string a0_0, .string a0_1] 76 (0, 0)) (by (with_reducible repeat (first | refine blk_drewN ?_ _ | refine blk_drew ?_ | refine blk_alloc ?_ _)); exact BK101.out) hb); have n2_ := Aside0.mk (below_step (by repeat (first | (with_reducible first | exact HB.out | apply below_alloc | apply pw_below_drewN | apply below_drew1 | refine below_set ?_ GE101.out) | exact HB.out)) hb); clear BK101; clear HB; have HO104 := n0_; have BK101 := n1_; have HB := n2_; clear n0_ n1_ n2_; (try clear hb); (try clear hb2); (try clear hk); (try clear hi); (try clear ho0); have hcz50_0 : w49.cell? ⟨gb101, 0, none⟩ = some (.string a0_0) := (blk_cell BK101.out 0).trans rfl; have hcz50_1 : w49.cell? ⟨gb101, 1, none⟩ = some (.string a0_1) := (blk_cell BK101.out 1).trans rfl; have hfz50_0 := blk_frozen BK101.out 0; have hfz50_1 := blk_frozen BK101.out 1) | ((with_reducible refine gate_callee (f := 116) rfl ?_); refine goesL_ (some 10) rfl rfl Tryz.func116 (by kernel_rfl) rfl #[.string a0_0] rfl (by (try simp only [List.map_toArray, List.map_cons, List.map_nil]); first | done | rfl | (simp only [List.length_drop, List.length_take]; rfl)) ?_; (with_reducible refine (PA.field_ValidName.calls k a0_0 false _ A3.out).mono ?_); rintro e w' ⟨rfl, ⟨nd, rfl⟩⟩; refine ⟨_, rfl, ?_⟩))
    go_ret
    exact ⟨by first | rfl | (simp [errW_none, errW_some] <;> rfl) | (simp [*, errW_none, errW_some] <;> rfl), by repeat (first | (with_reducible first | exact HB.out | apply below_alloc | apply pw_below_drewN | apply below_drew1 | refine below_set ?_ GE101.out) | exact HB.out)⟩

end Go.Proofs.YtfeciafdioepiaaGreatDoor.PB
set_option linter.unusedVariables false
set_option linter.unusedSimpArgs false
/- WriteString beside other rows; the contract of Field.Fold. -/
namespace Go.Proofs.YtfeciafdioepiaaGreatDoor
open Go.RowKit Go.Proofs Go.Proofs.YtfeciafdioepiaaGreatDoorW.PrintWords Go.Proofs.YtfeciafdioepiaaGreatDoor.PA

/-- The rows that are of no builder stay. -/
def Sib (w w' : World) : Prop := ∀ (k : Nat) (cs : Array Value) (T : TypeId), w.heap[k]? = some (Obj.cells cs T (0, 0)) → T ≠ 85 → T ≠ 5 → w'.heap[k]? = w.heap[k]?
theorem Sib.refl (w : World) : Sib w w := fun _ _ _ _ _ _ => rfl
theorem Sib.trans {w w1 w2 : World} (h : Sib w w1) (k : Sib w1 w2) : Sib w w2 := fun i cs T hi h1 h2 => (k i cs T ((h i cs T hi h1 h2).trans hi) h1 h2).trans (h i cs T hi h1 h2)
theorem Sib.below {w w1 : World} (h : Below w.heap.size w w1) : Sib w w1 := fun i cs T hi _ _ => h.block i (by
  rcases Nat.lt_or_ge i w.heap.size with h' | h'
  · exact h'
  · simp [Array.getElem?_eq_none h'] at hi)
theorem Sib.set_ {w : World} {b : Nat} {cs : Array Value} (hb : w.heap[b]? = some (.cells cs 85 (0, 0))) (j : Nat) (v : Value) : Sib w (w.setCell ⟨b, j, none⟩ v) := fun k cs' T hk h1 _ => by
  refine Below.heap_setCell _ _ _ _ ?_
  rintro rfl
  rw [hk] at hb
  injection hb with hb
  injection hb with _ hb
  exact h1 hb
theorem R_sib {α : Type} {d : Kd α} {e : Nat} {w w1 : World} {base : Nat} {ok : Nat → Prop} {v : Value} {xs : List α} (h : d.R e w base ok v xs) (hs : Sib w w1) (ht : ∀ q, q ∈ e :: d.E → q ≠ 85 ∧ q ≠ 5) : d.R e w1 base ok v xs :=
  Kd.R_mono (Kd.R_step (Kd.R_bound h) (fun k hk _ => by
    obtain ⟨_, _, _, q, hq, cells, hc⟩ := hk
    exact hs k cells q hc (ht q hq).1 (ht q hq).2)) (fun _ hk => hk.1)

theorem copyCheck2 (B b : Nat) (bs : List Value) (w : World) (h : Lib.IsBuilder 85 5 B b bs w) :
    Calls Tryz.prog 74 #[.pointer (some ⟨b, 0, none⟩)] w fun e w' => e = .returned (.tuple #[]) ∧ (Lib.BuilderAt 85 5 B b (.pointer (some ⟨b, 0, none⟩)) bs w' ∧ Below B w w' ∧ Sib w w') := by
  rcases h with h | h
  · refine (copyCheck_fresh b w h.cell0 h.shape h.frozen0).mono ?_
    rintro e w' ⟨rfl, rfl⟩
    obtain ⟨hB, v, hb, _⟩ := id h
    exact ⟨rfl, h.used _, (Below.refl B w).setCell (p := ⟨b, 0, none⟩) h.1 _, Sib.set_ hb 0 _⟩
  · refine (copyCheck_used b w h.cell0).mono ?_
    rintro e w' ⟨rfl, rfl⟩
    exact ⟨rfl, h, Below.refl B _, Sib.refl _⟩

set_option maxHeartbeats 2000000 in
set_option maxRecDepth 100000 in
theorem writeString2 (B b : Nat) (bs : List Value) (s : ByteArray) (w : World) (h : Lib.IsBuilder 85 5 B b bs w) (hlen : bs.length + s.size ≤ 140737488355328) (hBw : B ≤ w.heap.size) :
    Calls Tryz.prog 47 #[.pointer (some ⟨b, 0, none⟩), .string s] w fun e w' => e = .returned (.tuple #[.int .i64 s.size, .nilIface]) ∧ (Lib.BuilderAt 85 5 B b (.pointer (some ⟨b, 0, none⟩)) (bs ++ Lib.strCells s) w' ∧ Below B w w' ∧ Sib w w') := by
  obtain ⟨i0, hi, hz0, hz1, hz2⟩ := info_parts infoByte
  go_enter Tryz.func47, Tryz.ntmps47
  go_wp2_with (go_at_call 74; refine (copyCheck2 B b bs _ h).mono ?_)
  rintro e w1 ⟨rfl, h1, hb1, hs1⟩
  obtain ⟨hB, v, hbk, hown, hne⟩ := h1
  have c0 : w1.cell? ⟨b, 0, none⟩ = some (.pointer (some ⟨b, 0, none⟩)) := by rw [Lib.cell_of_heap hbk]; rfl
  have c1 : w1.cell? ⟨b, 1, none⟩ = some v := by rw [Lib.cell_of_heap hbk]; rfl
  go_wp2_with (at_builtin; refine Lib.wpList_append_own_string _ rfl _ _ 44 9 rfl B 5 i0 Tryz.underlying44 Tryz.underlying9 hi hz0 hz1 hz2 _ _ _ rfl hown s rfl ?c3 ?c4 ?c5 ?_)
  case c3 => unfold maxLen; omega
  case c4 => omega
  case c5 => have := hb1.size; omega
  intro v' w2 hown' hgrow _
  have hlt : b < w1.heap.size := by
    rcases Nat.lt_or_ge b w1.heap.size with h' | h'
    · exact h'
    · simp [Array.getElem?_eq_none h'] at hbk
  have hb2 : w2.heap[b]? = some (.cells #[.pointer (some ⟨b, 0, none⟩), v] 85 (0, 0)) := by
    rw [hgrow.block b hlt (fun e => hne e.symm)]
    exact hbk
  have d0 : w2.cell? ⟨b, 0, none⟩ = some (.pointer (some ⟨b, 0, none⟩)) := by rw [Lib.cell_of_heap hb2]; rfl
  have d1 : w2.cell? ⟨b, 1, none⟩ = some v := by rw [Lib.cell_of_heap hb2]; rfl
  have f1 : w2.frozen? ⟨b, 1, none⟩ = false := Lib.frozen_of_heap hb2 1
  have hs2 : Sib w1 w2 := fun k cs T hk h1 h2 => by
    refine hgrow.block k ?_ ?_
    · rcases Nat.lt_or_ge k w1.heap.size with h' | h'
      · exact h'
      · simp [Array.getElem?_eq_none h'] at hk
    · exact fun e => Lib.ownBlock_ne hown hk h2 e.symm
  obtain ⟨ao, n', cap, rfl⟩ : ∃ ao n' cap, v' = .slice ao n' cap := by
    rcases hown'.2 with ⟨hv, _⟩ | ⟨g, cap, cur, hv, _⟩
    · exact ⟨_, _, _, hv⟩
    · exact ⟨_, _, _, hv⟩
  go_wp2
  go_ret2
  refine ⟨rfl, ?_, ?_, (hs1.trans hs2).trans (Sib.set_ hb2 1 _)⟩
  · exact Lib.BuilderAt.put (T := 85) (e := 5) hB hb2 (bs' := bs ++ Lib.strCells s) (by simpa [Lib.strCells_length] using hown') (by decide)
  · exact (hb1.grown hgrow (by have := hb1.size; omega) (fun k hk => (hown.lt k hk).1)).setCell (p := ⟨b, 1, none⟩) hB _

theorem fresh_builder {w : World} {B b : Nat} (hB : B ≤ b) (hb : w.heap[b]? = some (.cells #[.pointer none, .slice none 0 0] 85 (0, 0))) : Lib.IsBuilder 85 5 B b (Lib.byteCells []) w :=
  .inl ⟨hB, .slice none 0 0, hb, World.ownsRow_nil _ _ _ _, by simp [Value.ownBlock]⟩

theorem mkS_append (a b : List UInt8) : mkS a ++ mkS b = mkS (a ++ b) := by
  have : ∀ x y : ByteArray, x.data.toList = y.data.toList → x = y := fun x y h => by
    cases x; cases y; simp at h; subst h; rfl
  apply this
  simp [mkS, ByteArray.data_append]
theorem IsBuilder_below {w w1 : World} {B b : Nat} {bs : List Value} (h : Lib.IsBuilder 85 5 B b bs w) (hb : Below w.heap.size w w1) : Lib.IsBuilder 85 5 B b bs w1 := by
  have key : ∀ p, Lib.BuilderAt 85 5 B b p bs w → Lib.BuilderAt 85 5 B b p bs w1 := by
    intro p h
    have hlt := h.lt
    obtain ⟨hB, v, hv, hown, hne⟩ := h
    refine ⟨hB, v, (hb.block b hlt).trans hv, ?_, hne⟩
    refine ⟨hown.1, ?_⟩
    rcases hown.2 with hn | ⟨g, cap, cur, rfl, hbg, hgg, rest⟩
    · exact .inl hn
    · exact .inr ⟨g, cap, cur, rfl, hbg, (hb.block g (Array.getElem?_eq_some_iff.1 hgg).1).trans hgg, rest⟩
  exact h.elim (fun x => .inl (key _ x)) (fun x => .inr (key _ x))

/-- The lines of a folded field. -/
def foldW : List (List UInt8) → List UInt8 → List UInt8 → Bool → List UInt8
  | [], out, line, _ => out ++ (line ++ [10])
  | x :: xs, out, line, e => if e = false ∧ 78 < line.length + 1 + x.length then foldW xs (out ++ (line ++ [10])) (32 :: x) false else foldW xs out (line ++ 32 :: x) false
def foldL (name body : List UInt8) : List UInt8 := foldW (wordsL body) [] (name ++ [58]) true
def costW (ws : List (List UInt8)) : Nat := sumL ws + 2 * ws.length
theorem costW_cons (x : List UInt8) (xs : List (List UInt8)) : costW (x :: xs) = x.length + 2 + costW xs := by
  simp [costW, sumL]; omega
theorem mkS_one (c : UInt8) : (⟨#[c]⟩ : ByteArray) = mkS [c] := rfl
theorem mkS_nil : (⟨#[]⟩ : ByteArray) = mkS [] := rfl
end Go.Proofs.YtfeciafdioepiaaGreatDoor

/- The contract of Field.Fold. -/
namespace Go.Proofs.YtfeciafdioepiaaGreatDoor
open Go.RowKit Go.Proofs Go.Proofs.YtfeciafdioepiaaGreatDoorW.PrintWords Go.Proofs.YtfeciafdioepiaaGreatDoor.PA

def GV.Fold.f (k : Nat) (a b : ByteArray) : Option (ByteArray × Int) := (PB.field_Field_Check.f k a b).bind fun e => if e = 0 then (if a.size ≤ 1000000 ∧ b.size ≤ 1000000 then some (mkS (foldL a.data.toList b.data.toList), 0) else none) else some (⟨#[]⟩, e)
theorem str_mk (s : ByteArray) : Lib.strCells s = Lib.byteCells s.data.toList := rfl

set_option maxHeartbeats 2000000 in
set_option maxRecDepth 100000 in
theorem GV.Fold.calls (k : Nat) (a0_0 a0_1 : ByteArray) (r1 : ByteArray) (r2 : Int) (w : World) (h : GV.Fold.f k a0_0 a0_1 = some (r1, r2)) :
    Calls Tryz.prog 64 #[.agg #[.string a0_0, .string a0_1]] w fun e w' => e = .returned (.tuple #[.string r1, .int .i64 r2]) ∧ Below w.heap.size w w' := by
  have hBX : (w.alloc (.cells #[.string a0_0, .string a0_1] 76)).heap[w.heap.size]? = some (.cells #[.string a0_0, .string a0_1] 76 (0, 0)) := by simpa using heap_alloc_new w (.cells #[.string a0_0, .string a0_1] 76)
  have HBX := Aside0.mk hBX
  have HW0 := Aside0.mk ((Below.refl w.heap.size w).alloc (Nat.le_refl _) (.cells #[.string a0_0, .string a0_1] 76))
  clear hBX
  obtain ⟨e0, he0, h1⟩ := Option.bind_eq_some_iff.mp h
  have He0 := Lib.hid he0
  clear h he0
  by_cases hz : e0 = 0
  · rw [if_pos hz] at h1
    subst hz
    split at h1
    · rename_i hsz
      obtain ⟨hsa, hsb⟩ := hsz
      injection h1 with h1
      injection h1 with h1 h2
      have HR := Lib.hid h1
      subst h2
      clear h1
      go_enter Tryz.func64, Tryz.ntmps64
      go_wp2_with fail
      refine (PB.field_Field_Check.calls k _ _ _ _ He0.out).mono ?_
      rintro e w1 ⟨rfl, hb1⟩
      have hB1 := HW0.out.trans (hb1.mono (by simp))
      have HBX1 := Aside0.mk ((hb1.block w.heap.size (by simp)).trans HBX.out)
      have hc0 := (blk_cell HBX1.out 0).trans rfl
      have hc1 := (blk_cell HBX1.out 1).trans rfl
      have hlt1 : w.heap.size ≤ w1.heap.size := hB1.size
      have hblt : w.heap.size < w1.heap.size := by have := hb1.size; simp at this; omega
      have HB1 := Aside0.mk hB1
      have hn1 : w.heap.size ≠ w1.heap.size := by omega
      clear hb1 hB1
      have HFB := Aside0.mk (fresh_builder (w := w1.alloc (.cells #[.pointer none, .slice none 0 0] 85)) (B := w.heap.size) (b := w1.heap.size) hlt1 (by simpa using heap_alloc_new w1 (.cells #[.pointer none, .slice none 0 0] 85)))
      go_wp2_with fail
      refine (ascii_Words.calls a0_1 _ (by omega)).mono ?_
      rintro e w2 ⟨v2, rfl, hR2, hb2⟩
      obtain ⟨A2, c2, rfl⟩ := Kd.R_slice hR2
      have hwl := wordsL_len a0_1.data.toList
      have hws := wordsL_sum a0_1.data.toList
      have hsa' : a0_0.data.toList.length = a0_0.size := by simp
      have hsb' : a0_1.data.toList.length = a0_1.size := by simp
      have hR2' : Kd.R Kd.string 9 w2 _ (fun _ => True) (.slice A2 (wordsB a0_1).length c2) ((wordsL a0_1.data.toList).map mkS) := hR2
      have HR2 := Aside0.mk hR2'
      have hcn : (wordsB a0_1).length = (wordsL a0_1.data.toList).length := by unfold wordsB; rw [List.length_map]
      rw [hcn] at HR2 ⊢
      have HFB2 := Aside0.mk (IsBuilder_below HFB.out hb2)
      have HB2 := Aside0.mk ((HB1.out.alloc hlt1 (.cells #[.pointer none, .slice none 0 0] 85)).trans (hb2.mono (by simp; omega)))
      have hbs2 : w1.heap.size < w2.heap.size := by have := hb2.size; simp at this; omega
      have hres : mkS (foldW (wordsL a0_1.data.toList) [] (a0_0.data.toList ++ [58]) true) = r1 := HR.out
      have hline : a0_0 ++ ⟨#[58]⟩ = mkS (a0_0.data.toList ++ [58]) := by rw [← mkS_append, mkS_data]; rfl
      have hcost : costW (wordsL a0_1.data.toList) ≤ 3000000 := by unfold costW; omega
      have hnl : (a0_0.data.toList ++ [58]).length ≤ 1000001 := by simp; omega
      rw [hline]
      generalize hws : wordsL a0_1.data.toList = ws at *
      generalize hnm : a0_0.data.toList ++ [58] = nm at *
      have Hres := Lib.hid hres
      have Hcost := Lib.hid hcost
      have Hnl := Lib.hid hnl
      have hwl3 : ws.length ≤ 1000001 := by omega
      clear hR2 hb2 hR2' hwl hws hsa' hsb' hcn hres hline hcost hnm HR hnl
      generalize hBb : w1.heap.size = b at *
      clear HFB HBX1 hc0 hc1 HB1 hBb
      go_wp2
      go_loopw [6, 7, 22] (fun v6 v7 v22 wr => ∃ (j : Nat) (out line : List UInt8) (e : Bool), j ≤ ws.length ∧ v22 = .int .i64 j ∧ v6 = .string (mkS line) ∧ v7 = .bool e ∧ Aside0 (mkS (foldW (ws.drop j) out line e) = r1) ∧ Aside0 (out.length + line.length + costW (ws.drop j) ≤ 5000000) ∧ Aside0 (Lib.IsBuilder 85 5 w.heap.size b (Lib.byteCells out) wr) ∧
        Aside0 (Below w.heap.size w wr) ∧ Aside0 (Kd.R Kd.string 9 wr (w1.alloc (.cells #[.pointer none, .slice none 0 0] 85)).heap.size (fun _ => True) (.slice A2 ws.length c2) (ws.map mkS))) (fun v6 v7 v22 _ => ws.length - (intOf v22).toNat)
      case atStart => exact ⟨0, [], nm, true, Nat.zero_le _, rfl, rfl, rfl, ⟨Hres.out⟩, ⟨by have := Hcost.out; have := Hnl.out; simp; omega⟩, HFB2, HB2, HR2⟩
      case round =>
        obtain ⟨j, out, line, e, hj, rfl, rfl, rfl, HE, HC, HBl, HW, HR⟩ := hrel
        by_cases hlt : j < ws.length
        · have hdk : ws.drop j = ws[j] :: ws.drop (j + 1) := List.drop_eq_getElem_cons hlt
          obtain ⟨ad, hA, hx0⟩ := Kd.at_string (Kd.R_reads' HR.out).2.2 j (by omega) (by simp; omega)
          have hget : rdOf ByteArray.empty (ws.map mkS) (j : Int) = mkS ws[j] := by
            unfold rdOf; rw [Int.toNat_natCast, List.getD_eq_getElem?_getD, List.getElem?_map, List.getElem?_eq_getElem hlt]; rfl
          rw [hget] at hx0
          rw [Int.toNat_natCast] at hx0
          have hE2 := HE.out
          have hC2 := HC.out
          rw [hdk] at hE2 hC2
          rw [costW_cons] at hC2
          generalize hxq : ws[j] = x at *
          have hxs := mkS_size x
          have hls := mkS_size line
          have hl1 : (mkS line ++ (⟨#[10]⟩ : ByteArray)) = mkS (line ++ [10]) := by rw [mkS_one, mkS_append]
          have hl2 : (mkS line ++ (⟨#[32]⟩ : ByteArray)) = mkS (line ++ [32]) := by rw [mkS_one, mkS_append]
          have hl3 : ((⟨#[]⟩ : ByteArray) ++ (⟨#[32]⟩ : ByteArray)) = mkS [32] := by rw [mkS_one, mkS_nil, mkS_append]; rfl
          have Hl1 := Lib.hid hl1
          have Hl2 := Lib.hid hl2
          have Hl3 := Lib.hid hl3
          have Hxs := Lib.hid hxs
          have Hls := Lib.hid hls
          have hE3 : mkS (if e = false ∧ 78 < line.length + 1 + x.length then foldW (ws.drop (j + 1)) (out ++ (line ++ [10])) (32 :: x) false else foldW (ws.drop (j + 1)) out (line ++ 32 :: x) false) = r1 := hE2
          have HE3 := Lib.hid hE3
          subst hA
          clear hdk hget hE2 hE3 hxq hl1 hl2 hl3 HE HC
          have hxs1 : (mkS x).size ≤ 5000000 := by omega
          have hls1 : (mkS line).size ≤ 5000000 := by omega
          rcases Bool.eq_false_or_eq_true e with rfl | rfl
          · have hE4 := HE3.out
            rw [if_neg (by simp)] at hE4
            have HE4 := Aside0.mk hE4
            have hadd : (mkS (line ++ [32]) ++ mkS x) = mkS (line ++ 32 :: x) := by rw [mkS_append]; simp
            have Hadd := Lib.hid hadd
            have hsz4 : (mkS line ++ (⟨#[32]⟩ : ByteArray)).size ≤ 5000001 := by rw [Hl2.out, mkS_size]; simp; omega
            clear hE4 HE3 hadd
            go_wp2
            go_roundw
            case rel => exact ⟨j + 1, out, line ++ 32 :: x, false, by omega, by go_num, by rw [Hl2.out, Hadd.out], rfl, ⟨HE4.out⟩, ⟨by simp; omega⟩, HBl, HW, HR⟩
            case measure => simp [intOf]; omega
          · by_cases hlong : 78 < line.length + 1 + x.length
            · have hE4 := HE3.out
              rw [if_pos ⟨rfl, hlong⟩] at hE4
              have HE4 := Aside0.mk hE4
              have hadd : (mkS [32] ++ mkS x) = mkS (32 :: x) := by rw [mkS_append]; simp
              have Hadd := Lib.hid hadd
              have hcells : Lib.byteCells out ++ Lib.strCells (mkS (line ++ [10])) = Lib.byteCells (out ++ (line ++ [10])) := by rw [str_mk, mkS_toList, ← Lib.byteCells_append]
              have Hcells := Lib.hid hcells
              have hsz4 : ((⟨#[]⟩ : ByteArray) ++ (⟨#[32]⟩ : ByteArray)).size ≤ 1 := by rw [Hl3.out, mkS_size]; simp
              clear hE4 HE3 hadd hcells
              go_wp2_with fail
              rw [Hl1.out]
              refine (writeString2 w.heap.size b _ (mkS (line ++ [10])) _ HBl.out (by rw [Lib.byteCells_length, mkS_size]; simp; omega) HW.out.size).mono ?_
              rintro e w3 ⟨rfl, hb3, hw3, hs3⟩
              rw [Hcells.out] at hb3
              have HBl3 := Aside0.mk (Or.inr hb3 : Lib.IsBuilder 85 5 w.heap.size b (Lib.byteCells (out ++ (line ++ [10]))) w3)
              have HW3 := Aside0.mk (HW.out.trans hw3)
              have HR3 := Aside0.mk (R_sib HR.out hs3 (by decide))
              clear hb3 hw3 hs3
              go_wp2
              go_roundw
              case rel => exact ⟨j + 1, out ++ (line ++ [10]), 32 :: x, false, by omega, by go_num, by rw [Hl3.out, Hadd.out], rfl, ⟨HE4.out⟩, ⟨by simp; omega⟩, HBl3, HW3, HR3⟩
              case measure => simp [intOf]; omega
            · have hE4 := HE3.out
              rw [if_neg (fun h => hlong h.2)] at hE4
              have HE4 := Aside0.mk hE4
              have hadd : (mkS (line ++ [32]) ++ mkS x) = mkS (line ++ 32 :: x) := by rw [mkS_append]; simp
              have Hadd := Lib.hid hadd
              have hsz4 : (mkS line ++ (⟨#[32]⟩ : ByteArray)).size ≤ 5000001 := by rw [Hl2.out, mkS_size]; simp; omega
              clear hE4 HE3 hadd
              go_wp2
              go_roundw
              case rel => exact ⟨j + 1, out, line ++ 32 :: x, false, by omega, by go_num, by rw [Hl2.out, Hadd.out], rfl, ⟨HE4.out⟩, ⟨by simp; omega⟩, HBl, HW, HR⟩
              case measure => simp [intOf]; omega
        · have hk2 : ws.drop j = [] := List.drop_eq_nil_of_le (by omega)
          have hE := HE.out
          have hC2 := HC.out
          rw [hk2] at hE hC2
          have hE2 : mkS (out ++ (line ++ [10])) = r1 := hE
          have HE2 := Aside0.mk hE2
          have hl1 : (mkS line ++ (⟨#[10]⟩ : ByteArray)) = mkS (line ++ [10]) := by rw [mkS_one, mkS_append]
          have Hl1 := Lib.hid hl1
          have hcells : Lib.byteCells out ++ Lib.strCells (mkS (line ++ [10])) = Lib.byteCells (out ++ (line ++ [10])) := by rw [str_mk, mkS_toList, ← Lib.byteCells_append]
          have Hcells := Lib.hid hcells
          have hls := mkS_size line
          have hls1 : (mkS line).size ≤ 5000000 := by omega
          clear hk2 hE hE2 hl1 hcells HE
          go_wp2_with fail
          rw [Hl1.out]
          refine (writeString2 w.heap.size b _ (mkS (line ++ [10])) _ HBl.out (by rw [Lib.byteCells_length, mkS_size]; simp; omega) HW.out.size).mono ?_
          rintro e w3 ⟨rfl, hb3, hw3, hs3⟩
          rw [Hcells.out] at hb3
          have HBl3 := Aside0.mk (Or.inr hb3 : Lib.IsBuilder 85 5 w.heap.size b (Lib.byteCells (out ++ (line ++ [10]))) w3)
          have HW3 := Aside0.mk (HW.out.trans hw3)
          clear hb3 hw3 hs3
          go_wp2_with fail
          refine (Tryz.Builder_String_any w.heap.size b _ _ HBl3.out HW3.out.size).mono ?_
          rintro e w4 ⟨rfl, hw4⟩
          have HW4 := Aside0.mk (HW3.out.trans hw4)
          clear hw4
          go_wp2
          go_ret2
          exact ⟨by rw [← HE2.out]; rfl, HW4.out⟩
    · cases h1
  · rw [if_neg hz] at h1
    injection h1 with h1
    injection h1 with h1 h2
    subst h1 h2
    have hzb : (e0 == 0) = false := beq_eq_false_iff_ne.2 hz
    have hzb2 : (e0 != 0) = true := bne_iff_ne.2 hz
    have Hz := Lib.hid hz
    clear hz
    go_enter Tryz.func64, Tryz.ntmps64
    go_wp2_with fail
    refine (PB.field_Field_Check.calls k _ _ _ _ He0.out).mono ?_
    rintro e w1 ⟨rfl, hb1⟩
    have hB1 := HW0.out.trans (hb1.mono (by simp))
    go_wp2
    go_ret2
    exact ⟨rfl, hB1⟩
end Go.Proofs.YtfeciafdioepiaaGreatDoor

/- The contract of field.Print. -/
namespace Go.Proofs.YtfeciafdioepiaaGreatDoor
open Go.RowKit Go.Proofs Go.Proofs.YtfeciafdioepiaaGreatDoorW.PrintWords Go.Proofs.YtfeciafdioepiaaGreatDoor.PA

def GV.Print.go (k : Nat) : List S76 → List UInt8 → Option (ByteArray × Int)
  | [], out => if 65536 < out.length then some (⟨#[]⟩, 5) else some (mkS out, 0)
  | x :: xs, out => (GV.Fold.f k x.f0 x.f1).bind fun p => if p.2 = 0 then (if p.1.size ≤ 4000000 then GV.Print.go k xs (out ++ p.1.data.toList) else none) else some (⟨#[]⟩, p.2)
def GV.Print.f (k : Nat) (l : List S76) : Option (ByteArray × Int) := if 64 < l.length then some (⟨#[]⟩, 9) else GV.Print.go k l []
set_option maxHeartbeats 2000000 in
set_option maxRecDepth 100000 in
theorem GV.Print.calls (k : Nat) (A0 : Option Addr) (c0 : Nat) (l0 : List S76) (r1 : ByteArray) (r2 : Int) (w : World) (hr0 : Kd.C k76 w A0 l0.length l0) (hc0 : l0.length ≤ c0) (h : GV.Print.f k l0 = some (r1, r2)) :
    Calls Tryz.prog 40 #[.slice A0 l0.length c0] w fun e w' => e = .returned (.tuple #[.string r1, .int .i64 r2]) ∧ Below w.heap.size w w' := by
  have HR := Aside0.mk hr0
  have HC0 := Aside0.mk hc0
  clear hr0 hc0
  unfold GV.Print.f at h
  generalize hn : l0.length = n at *
  have Hn := Lib.hid hn
  clear hn
  by_cases h64 : 64 < n
  · rw [if_pos h64] at h
    injection h with h
    injection h with h1 h2
    subst h1 h2
    go_enter Tryz.func40, Tryz.ntmps40
    go_wp2
    go_ret2
    exact ⟨rfl, Below.refl _ _⟩
  · rw [if_neg h64] at h
    have H0 := Aside0.mk h
    have HFB := Aside0.mk (fresh_builder (w := w.alloc (.cells #[.pointer none, .slice none 0 0] 85)) (B := w.heap.size) (b := w.heap.size) (Nat.le_refl _) (by simpa using heap_alloc_new w (.cells #[.pointer none, .slice none 0 0] 85)))
    have HB0 := Aside0.mk ((Below.refl w.heap.size w).alloc (Nat.le_refl _) (.cells #[.pointer none, .slice none 0 0] 85))
    clear h
    go_enter Tryz.func40, Tryz.ntmps40
    go_wp2
    go_loopw [14] (fun v14 wr => ∃ (j : Nat) (out : List UInt8), j ≤ n ∧ v14 = .int .i64 j ∧ Aside0 (GV.Print.go k (l0.drop j) out = some (r1, r2)) ∧ Aside0 (out.length ≤ j * 4000000) ∧ Aside0 (Lib.IsBuilder 85 5 w.heap.size w.heap.size (Lib.byteCells out) wr) ∧ Aside0 (Below w.heap.size w wr)) (fun v14 _ => n - (intOf v14).toNat)
    case atStart => exact ⟨0, [], Nat.zero_le _, rfl, H0, ⟨by simp⟩, HFB, HB0⟩
    case round =>
      obtain ⟨j, out, hj, rfl, HE, HS, HBl, HW⟩ := hrel
      by_cases hlt : j < n
      · obtain ⟨ad, hA, hx0, hx1⟩ := at_T76 HR.out (j : Int) (by omega) (by omega)
        rw [Int.toNat_natCast] at hx0 hx1
        have hget : rd_T76 l0 (j : Int) = l0[j]'(by have := Hn.out; omega) := by
          unfold rd_T76; rw [Int.toNat_natCast, List.getD_eq_getElem?_getD, List.getElem?_eq_getElem (by have := Hn.out; omega)]; rfl
        have hdk : l0.drop j = l0[j]'(by have := Hn.out; omega) :: l0.drop (j + 1) := List.drop_eq_getElem_cons (by have := Hn.out; omega)
        have hE := HE.out
        rw [hdk, ← hget] at hE
        generalize rd_T76 l0 (j : Int) = x at *
        have hy0 := (HW.out.cell (World.block_lt_of_cell? w _ hx0)).trans hx0
        have hy1 := (HW.out.cell (World.block_lt_of_cell? w _ hx1)).trans hx1
        unfold GV.Print.go at hE
        obtain ⟨⟨s1, e1⟩, hf, hE2⟩ := Option.bind_eq_some_iff.mp hE
        simp only at hE2
        have Hf := Lib.hid hf
        have HBX := Aside0.mk (show (wr.alloc (.cells #[.string x.f0, .string x.f1] 76)).heap[wr.heap.size]? = some (.cells #[.string x.f0, .string x.f1] 76 (0, 0)) by simpa using heap_alloc_new wr (.cells #[.string x.f0, .string x.f1] 76))
        have HWa := Aside0.mk (HW.out.alloc HW.out.size (.cells #[.string x.f0, .string x.f1] 76))
        subst hA
        clear hx0 hx1 hget hdk hE hf
        by_cases hz : e1 = 0
        · rw [if_pos hz] at hE2
          subst hz
          split at hE2
          · rename_i hss
            have HE2 := Aside0.mk hE2
            clear hE2
            go_wp2_with fail
            refine (GV.Fold.calls k x.f0 x.f1 s1 0 _ Hf.out).mono ?_
            rintro e w2 ⟨rfl, hb2⟩
            have HBl2 := Aside0.mk (IsBuilder_below (IsBuilder_below HBl.out ((Below.refl _ _).alloc (Nat.le_refl _) (.cells #[.string x.f0, .string x.f1] 76))) hb2)
            have HW2 := Aside0.mk (HWa.out.trans (hb2.mono HWa.out.size))
            have hcells : Lib.byteCells out ++ Lib.strCells s1 = Lib.byteCells (out ++ s1.data.toList) := by rw [str_mk, ← Lib.byteCells_append]
            have Hcells := Lib.hid hcells
            have hsl : s1.data.toList.length = s1.size := by simp
            have Hsl := Lib.hid hsl
            clear hb2 hcells hsl
            go_wp2_with fail
            refine (writeString2 w.heap.size w.heap.size _ s1 _ HBl2.out (by rw [Lib.byteCells_length]; have := HS.out; omega) HW2.out.size).mono ?_
            rintro e w3 ⟨rfl, hb3, hw3, _⟩
            rw [Hcells.out] at hb3
            have HBl3 := Aside0.mk (Or.inr hb3 : Lib.IsBuilder 85 5 w.heap.size w.heap.size (Lib.byteCells (out ++ s1.data.toList)) w3)
            have HW3 := Aside0.mk (HW2.out.trans hw3)
            clear hb3 hw3
            go_wp2
            go_roundw
            case rel => exact ⟨j + 1, out ++ s1.data.toList, by omega, by go_num, HE2, ⟨by rw [List.length_append, Hsl.out]; have := HS.out; omega⟩, HBl3, HW3⟩
            case measure => simp [intOf]; omega
          · cases hE2
        · rw [if_neg hz] at hE2
          injection hE2 with hE2
          injection hE2 with h1 h2
          subst h1 h2
          have hzb : (e1 == 0) = false := beq_eq_false_iff_ne.2 hz
          have hzb2 : (e1 != 0) = true := bne_iff_ne.2 hz
          have Hz := Lib.hid hz
          clear hz
          go_wp2_with fail
          refine (GV.Fold.calls k x.f0 x.f1 s1 e1 _ Hf.out).mono ?_
          rintro e w2 ⟨rfl, hb2⟩
          have HW2 := Aside0.mk (HWa.out.trans (hb2.mono HWa.out.size))
          clear hb2
          go_wp2
          go_ret2
          exact ⟨rfl, HW2.out⟩
      · have hk2 : l0.drop j = [] := List.drop_eq_nil_of_le (by have := Hn.out; omega)
        have hE := HE.out
        rw [hk2] at hE
        unfold GV.Print.go at hE
        have hbl := Lib.byteCells_length out
        by_cases hbig : 65536 < out.length
        · rw [if_pos hbig] at hE
          injection hE with hE
          injection hE with h1 h2
          subst h1 h2
          clear HE
          go_wp2_with fail
          refine (Tryz.Builder_Len w.heap.size w.heap.size _ _ HBl.out).mono ?_
          rintro e w3 ⟨rfl, rfl⟩
          rw [hbl]
          go_wp2
          go_ret2
          exact ⟨rfl, HW.out⟩
        · rw [if_neg hbig] at hE
          injection hE with hE
          injection hE with h1 h2
          subst h2
          have H1 := Lib.hid h1
          clear HE h1
          go_wp2_with fail
          refine (Tryz.Builder_Len w.heap.size w.heap.size _ _ HBl.out).mono ?_
          rintro e w3 ⟨rfl, rfl⟩
          rw [hbl]
          go_wp2_with fail
          refine (Tryz.Builder_String_any w.heap.size w.heap.size _ _ HBl.out HW.out.size).mono ?_
          rintro e w4 ⟨rfl, hw4⟩
          have HW4 := Aside0.mk (HW.out.trans hw4)
          clear hw4
          go_wp2
          go_ret2
          exact ⟨by rw [← H1.out]; rfl, HW4.out⟩

end Go.Proofs.YtfeciafdioepiaaGreatDoor

/- The contract of field.Parse, in the printed form. -/
namespace Go.Proofs.YtfeciafdioepiaaGreatDoor
open Go.RowKit Go.Proofs Go.Proofs.YtfeciafdioepiaaGreatDoorW.PrintWords Go.Proofs.YtfeciafdioepiaaGreatDoor.PA

theorem gm_at {w w1 : World} (h : Gm w) (hb : Below w.heap.size w w1) : Gm w1 := h.below hb (by
  obtain ⟨m, hm⟩ := h
  exact Nat.lt_of_le_of_lt (Nat.zero_le _) (World.block_lt_of_cell? w _ hm))
end Go.Proofs.YtfeciafdioepiaaGreatDoor

/- The contract of known. -/
namespace Go.Proofs.YtfeciafdioepiaaGreatDoor
open Go.RowKit Go.Proofs Go.Proofs.YtfeciafdioepiaaGreatDoorW.PrintWords Go.Proofs.YtfeciafdioepiaaGreatDoor.PA

def GV.known.f : Option Bool := some true
end Go.Proofs.YtfeciafdioepiaaGreatDoor
set_option linter.unusedVariables false
set_option linter.unusedSimpArgs false
namespace Go.Proofs.YtfeciafdioepiaaGreatDoor.GV
open Go.RowKit Go.Proofs Go.Proofs.YtfeciafdioepiaaGreatDoorW.PrintWords Go.Proofs.YtfeciafdioepiaaGreatDoor.PA

def Cut.f (s sep : ByteArray) : Option (ByteArray × ByteArray × Bool) := if sep = ⟨#[10]⟩ ∧ s.size ≤ 140737488355328 then some (mkS (s.data.toList.take (lineN s.data.toList)), mkS (s.data.toList.drop (lineN s.data.toList + 1)), hasNl s.data.toList) else none
theorem Cut.calls (a0 : ByteArray) (a1 : ByteArray) (r1 : ByteArray) (r2 : ByteArray) (r3 : Bool) (w : World) (h : Cut.f a0 a1 = some (r1, r2, r3)) :
    Calls Tryz.prog 41 #[.string a0, .string a1] w fun e w' => e = .returned (.tuple #[.string r1, .string r2, .bool r3]) ∧ Drawn0 w w' := by
  unfold Cut.f at h
  split at h
  · rename_i hh
    obtain ⟨rfl, hs⟩ := hh
    injection h with h
    injection h with h1 h2
    injection h2 with h2 h3
    subst h1 h2 h3
    refine (cut_nl a0 w hs).mono ?_
    rintro e w' ⟨rfl, n, rfl⟩
    exact ⟨rfl, ⟨⟨n, rfl⟩⟩⟩
  · cases h
def badByte.f (s : ByteArray) : Option Int := if s.size ≤ 140737488355328 then some (badU s.data.toList) else none
theorem badByte.calls (a0 : ByteArray) (r : Int) (w : World) (h : badByte.f a0 = some r) :
    Calls Tryz.prog 42 #[.string a0] w fun e w' => e = .returned (.int .i64 r) ∧ Below w.heap.size w w' := by
  unfold badByte.f at h
  split at h
  · injection h with h; subst h; exact badByte_any a0 w (by assumption)
  · cases h
end Go.Proofs.YtfeciafdioepiaaGreatDoor.GV
set_option linter.unusedVariables false
set_option linter.unusedSimpArgs false
namespace Go.Proofs.YtfeciafdioepiaaGreatDoor
open Go.RowKit Go.Shelf Go.Proofs Go.Proofs.YtfeciafdioepiaaGreatDoorW.PrintWords Go.Proofs.YtfeciafdioepiaaGreatDoorW.PrintMore Go.Proofs.YtfeciafdioepiaaGreatDoor.PA

/-- How many quotation marks a line begins with, and what is behind them. -/
def isMark (c : UInt8) : Bool := c == 62
def markN (l : List UInt8) : Nat := spanL isMark l
def restL (l : List UInt8) : List UInt8 := if markN l = 0 then l.drop (markN l) else if (l.drop (markN l)).head? = some 32 then (l.drop (markN l)).drop 1 else l.drop (markN l)

set_option maxHeartbeats 1000000 in
set_option maxRecDepth 100000 in
theorem refLevel_any (s : ByteArray) (w : World) (hs : s.size ≤ 140737488355328) : Calls Tryz.prog 51 #[.string s] w fun e w' => e = .returned (.tuple #[.int .i64 (markN s.data.toList), .string (mkS (restL s.data.toList))]) ∧ Drawn0 w w' := by
  have hlen : s.data.toList.length = s.size := by simp
  have Hlen := Lib.hid hlen
  clear hlen
  go_enter Tryz.func51, Tryz.ntmps51
  go_wp2
  go_loopw [4] (fun v4 wr => ∃ k : Nat, k ≤ s.size ∧ v4 = .int .i64 k ∧ Aside0 (spanA isMark s.data.toList k = markN s.data.toList) ∧ Drawn0 w wr) (fun v4 _ => s.size - (intOf v4).toNat)
  case atStart => exact ⟨0, Nat.zero_le _, rfl, ⟨by unfold spanA markN; simp⟩, Drawn0.refl _⟩
  case round =>
    obtain ⟨k, hk, rfl, HE, ⟨n, rfl⟩⟩ := hrel
    have hend : spanA isMark s.data.toList k = k → markN s.data.toList = k := fun h => HE.out.symm.trans h
    have ht2 := extract_tailS s k
    by_cases hlt : k < s.size
    · have hk' : k < s.data.toList.length := by have := Hlen.out; omega
      have hg : s.data.toList[k] = s[k] := by rw [Array.getElem_toList]; rfl
      have hdc := List.drop_eq_getElem_cons hk'
      have hyes := spanA_yes (p := isMark) (l := s.data.toList) (i := k) hk'
      have hno := spanA_no (p := isMark) (l := s.data.toList) (i := k) hk'
      rw [hg] at hdc hyes hno
      generalize hc : s[k] = c at *
      have Hdc := Lib.hid hdc
      have Hyes := Lib.hid hyes
      have Hno := Lib.hid hno
      have Hend := Lib.hid hend
      have Ht2 := Lib.hid ht2
      clear hdc hyes hno hg hend ht2
      rcases Bool.eq_false_or_eq_true (isMark c) with hm | hm
      · have hcm : ((c.toNat : Int) == 62) = true := by unfold isMark at hm; rw [beq_iff_eq] at hm; subst hm; rfl
        have Hm := Lib.hid hm
        clear hm
        go_wp2
        go_roundw
        case rel => exact ⟨k + 1, by omega, by go_num, ⟨by rw [← Hyes.out Hm.out, HE.out]⟩, ⟨⟨n, rfl⟩⟩⟩
        case measure => simp [intOf]; omega
      · have hcm : ((c.toNat : Int) == 62) = false := by unfold isMark at hm; rw [beq_eq_false_iff_ne] at hm ⊢; intro h; exact hm ((toNat_int c 62 (by omega)).1 h)
        have hmk : markN s.data.toList = k := Hend.out (Hno.out hm)
        have hrl : restL s.data.toList = if k = 0 then c :: s.data.toList.drop (k + 1) else if c = 32 then s.data.toList.drop (k + 1) else c :: s.data.toList.drop (k + 1) := by
          unfold restL; rw [hmk, Hdc.out]
          by_cases h0 : k = 0
          · rw [if_pos h0, if_pos h0]
          · rw [if_neg h0, if_neg h0]; simp
        have Hmk := Lib.hid hmk
        have Hrl := Lib.hid hrl
        clear hm hmk hrl
        obtain ⟨t, ht⟩ : ∃ t, s.extract k s.size = t := ⟨_, rfl⟩
        have hts : t = mkS (c :: s.data.toList.drop (k + 1)) := by rw [← ht, Ht2.out, Hdc.out]
        have htz : 0 < t.size := by rw [hts, mkS_size]; simp
        have ht0 : t[0] = c := by subst hts; rfl
        have htl : t.toList.isEmpty = false := by rw [Lib.toList_data, hts, mkS_toList]; rfl
        have htl2 : t.toList ≠ [] := by rw [Lib.toList_data, hts, mkS_toList]; simp
        have htd : t.extract 1 t.size = mkS (s.data.toList.drop (k + 1)) := by rw [extract_tailS, hts, mkS_toList]; rfl
        have Hts := Lib.hid hts
        have Htd := Lib.hid htd
        clear hts htd
        by_cases h0 : k = 0
        · subst h0
          go_wp2
          go_ret2
          have hres : mkS (restL s.data.toList) = t := by rw [Hrl.out, Hts.out]; rfl
          exact ⟨by rw [Hmk.out, hres]; rfl, ⟨⟨n, rfl⟩⟩⟩
        · have hk0 : decide ((k : Int) > 0) = true := decide_eq_true (by omega)
          by_cases h32 : c = 32
          · have hc32 : ((c.toNat : Int) == 32) = true := by subst h32; rfl
            go_wp2
            go_ret2
            have hres : mkS (restL s.data.toList) = t.extract 1 t.size := by rw [Hrl.out, Htd.out, if_neg h0, if_pos h32]
            exact ⟨by rw [Hmk.out, hres]; rfl, ⟨⟨n, rfl⟩⟩⟩
          · have hc32 : ((c.toNat : Int) == 32) = false := by rw [beq_eq_false_iff_ne]; intro h; exact h32 ((toNat_int c 32 (by omega)).1 h)
            go_wp2
            go_ret2
            have hres : mkS (restL s.data.toList) = t := by rw [Hrl.out, Hts.out, if_neg h0, if_neg h32]
            exact ⟨by rw [Hmk.out, hres]; rfl, ⟨⟨n, rfl⟩⟩⟩
    · have hke : k = s.size := by omega
      subst hke
      have hst := spanA_stop (p := isMark) (l := s.data.toList) (i := s.size) (by have := Hlen.out; omega)
      have hmk : markN s.data.toList = s.size := hend hst
      have hrl : restL s.data.toList = [] := by
        unfold restL; rw [hmk, List.drop_eq_nil_of_le (by have := Hlen.out; omega)]
        simp
      have ht3 : s.extract s.size s.size = ⟨#[]⟩ := by rw [ht2, List.drop_eq_nil_of_le (by have := Hlen.out; omega)]; rfl
      have Hmk := Lib.hid hmk
      have Hrl := Lib.hid hrl
      clear hmk hrl hst hend ht2
      go_wp2
      all_goals go_ret2
      all_goals exact ⟨by rw [Hmk.out, Hrl.out]; rfl, ⟨⟨n, rfl⟩⟩⟩

/-! ### The program's Level -/
theorem trimLeft_mark (l : List UInt8) : Lib.trimLeftB l 62 = l.drop (markN l) := by
  unfold Lib.trimLeftB markN
  induction l with
  | nil => rfl
  | cons c l ih =>
    simp only [spanL]
    have e : isMark c = (c == 62) := rfl
    by_cases h : (c == 62) = true
    · rw [List.dropWhile_cons, if_pos h, e, if_pos h, ih]; rfl
    · rw [List.dropWhile_cons, if_neg h, e, if_neg h]; rfl
theorem trimPrefix_space (l : List UInt8) : Lib.trimPrefix l [32] = if l.head? = some 32 then l.drop 1 else l := by
  unfold Lib.trimPrefix Lib.hasPrefix
  cases l with
  | nil => rfl
  | cons c l =>
    by_cases h : c = 32
    · subst h; simp [List.isPrefixOf]
    · have h2 : (32 == c) = false := by rw [beq_eq_false_iff_ne]; exact fun e => h e.symm
      simp [List.isPrefixOf, h2, h]
set_option maxHeartbeats 1000000 in
set_option maxRecDepth 100000 in
theorem level_any (s : ByteArray) (w : World) (hs : s.size ≤ 140737488355328) : Calls Tryz.prog 24 #[.string s] w fun e w' => e = .returned (.tuple #[.int .i64 (markN s.data.toList), .string (mkS (restL s.data.toList))]) ∧ Drawn0 w w' := by
  have hlen : s.data.toList.length = s.size := by simp
  have hle : markN s.data.toList ≤ s.size := by rw [← hlen]; exact spanL_le _ _
  have htl := fun w => Tryz.strings_TrimLeft_one s 62 (by decide) w
  have e1 : (⟨(Lib.trimLeftB s.data.toList 62).toArray⟩ : ByteArray) = mkS (s.data.toList.drop (markN s.data.toList)) := by rw [trimLeft_mark]; rfl
  rw [e1] at htl
  have htp := fun w => Tryz.strings_TrimPrefix (mkS (s.data.toList.drop (markN s.data.toList))) ⟨#[32]⟩ w
  have e2 : (⟨(Lib.trimPrefix (mkS (s.data.toList.drop (markN s.data.toList))).data.toList (⟨#[32]⟩ : ByteArray).data.toList).toArray⟩ : ByteArray) = mkS (if (s.data.toList.drop (markN s.data.toList)).head? = some 32 then (s.data.toList.drop (markN s.data.toList)).drop 1 else s.data.toList.drop (markN s.data.toList)) := by
    rw [mkS_toList, show (⟨#[32]⟩ : ByteArray).data.toList = [32] from rfl, trimPrefix_space]; rfl
  rw [e2] at htp
  have hsz : (mkS (s.data.toList.drop (markN s.data.toList))).size = s.size - markN s.data.toList := by rw [mkS_size, List.length_drop, hlen]
  have hr : restL s.data.toList = if markN s.data.toList = 0 then s.data.toList.drop (markN s.data.toList) else (if (s.data.toList.drop (markN s.data.toList)).head? = some 32 then (s.data.toList.drop (markN s.data.toList)).drop 1 else s.data.toList.drop (markN s.data.toList)) := rfl
  rw [hr]
  generalize (if (s.data.toList.drop (markN s.data.toList)).head? = some 32 then (s.data.toList.drop (markN s.data.toList)).drop 1 else s.data.toList.drop (markN s.data.toList)) = r2 at *
  generalize hn : markN s.data.toList = n at *
  generalize s.data.toList.drop n = r1 at *
  have Htl := Lib.hid htl
  have Htp := Lib.hid htp
  have hsz2 : ((mkS r1).size : Int) = (s.size : Int) - n := by omega
  generalize hq : mkS r1 = q at *
  have Hq := Lib.hid hq
  clear hlen htl htp e1 e2 hr hn hsz hq
  have hw : wrap64 ((s.size : Int) - (q.size : Int)) = (n : Int) := by unfold wrap64; omega
  by_cases h0 : n = 0
  · subst h0
    have hz : (q.size : Int) = s.size := by omega
    have Hz := Lib.hid hz
    clear hz hsz2 hw
    have hqs : q.size = s.size := by have := Hz.out; omega
    go_enter Tryz.func24, Tryz.ntmps24
    go_wp2_with (go_at_call 52; refine (Htl.out _).mono ?_; rintro e w' ⟨rfl, rfl⟩)
    go_ret2
    have hres : mkS r1 = q := Hq.out
    exact ⟨by rw [hres]; rfl, ⟨⟨0, rfl⟩⟩⟩
  · have Hsz2 := Lib.hid hsz2
    clear hsz2
    have hn0 : decide ((n : Int) > 0) = true := decide_eq_true (by omega)
    go_enter Tryz.func24, Tryz.ntmps24
    go_wp2_with (first | (go_at_call 52; refine (Htl.out _).mono ?_; rintro e w' ⟨rfl, rfl⟩) | (go_at_call 53; refine (Htp.out _).mono ?_; rintro e w' ⟨rfl, rfl⟩))
    go_ret2
    exact ⟨rfl, ⟨⟨0, rfl⟩⟩⟩
end Go.Proofs.YtfeciafdioepiaaGreatDoor
namespace Go.Proofs.YtfeciafdioepiaaGreatDoor.GV
open Go.RowKit Go.Proofs Go.Proofs.YtfeciafdioepiaaGreatDoorW.PrintWords Go.Proofs.YtfeciafdioepiaaGreatDoor.PA
end Go.Proofs.YtfeciafdioepiaaGreatDoor.GV
namespace Go.Proofs.YtfeciafdioepiaaGreatDoor.PA
open Go.RowKit Go.Proofs Go.Proofs.YtfeciafdioepiaaGreatDoorW.PrintWords
/-- The reference's Level in the printed form, by hand. -/
def bulletinref15_Level.f (k : Nat) (s : ByteArray) : Option (Int × ByteArray) := if s.size ≤ 140737488355328 then some ((markN s.data.toList : Int), mkS (restL s.data.toList)) else none
theorem bulletinref15_Level.calls (k : Nat) (a0 : ByteArray) (r1 : Int) (r2 : ByteArray) (w : World) (h : bulletinref15_Level.f k a0 = some (r1, r2)) :
    Calls Tryz.prog 51 #[.string a0] w fun e w' => e = .returned (.tuple #[.int .i64 r1, .string r2]) ∧ Drawn0 w w' := by
  unfold bulletinref15_Level.f at h
  split at h
  · injection h with h; injection h with h1 h2; subst h1 h2; exact refLevel_any a0 w (by assumption)
  · cases h
end Go.Proofs.YtfeciafdioepiaaGreatDoor.PA
namespace Go.Proofs.YtfeciafdioepiaaGreatDoor.PA
open Go.RowKit Go.Proofs.YtfeciafdioepiaaGreatDoorW.PrintWords Go.Proofs.YtfeciafdioepiaaGreatDoorW.PrintLast Go.Proofs.YtfeciafdioepiaaGreatDoorW.PrintMore
attribute [local go_sem] max2_int min2_int max_two min_two max_three min_three max_four min_four   -- for this text's walks alone
set_option linter.unusedVariables false
set_option linter.unusedSimpArgs false

/-! ### bulletinref15_Lines: function 23 -/
def bulletinref15_Lines.l0 : Nat → ByteArray → List ByteArray → Int → Option (List ByteArray)
  | 0, _, _, _ => none
  | k + 1, x0, x3, x4 => if x4 < (x0.size : Int) then ((bulletinref15_end.f k x0 x4).bind fun t238 => (if 0 ≤ x4 then (if x4 ≤ t238 then (if t238 ≤ (x0.size : Int) then (if x3.length < 8796093022208 then (bulletinref15_Lines.l0 k x0 (x3 ++ [x0.extract (x4 : Int).toNat (t238 : Int).toNat]) (wrap64 (t238 + 1))) else (none)) else (none)) else (none)) else (none))) else (some x3)
def bulletinref15_Lines.f (k : Nat) (a0 : ByteArray) : Option (List ByteArray) := bulletinref15_Lines.l0 k a0 ([] : List ByteArray) 0
set_option maxHeartbeats 8000000 in
set_option maxRecDepth 100000 in
theorem bulletinref15_Lines.calls (k : Nat) (a0 : ByteArray) (r : List ByteArray) (w : World) (h : bulletinref15_Lines.f k a0 = some r) :
    Calls Tryz.prog 23 #[.string a0] w fun e w' => ∃ v0_ : Value, e = .returned (v0_) ∧ Kd.R Kd.string 9 w' w.heap.size (fun _ => True) v0_ r ∧ Below w.heap.size w w' := by
  have HB := Aside0.mk (Below.refl w.heap.size w)
  have H : (bulletinref15_Lines.l0 k a0 ([] : List ByteArray) 0) = some r := h
  clear h
  have H' := Aside0.mk H
  clear H
  go_enter Tryz.func23, Tryz.ntmps23
  go_wp2
  go_loopg [3, 4] k (fun kq v3 v4 w' => ∃ (x3_1 : List ByteArray) (x4_1 : Int), v4 = .int .i64 x4_1 ∧ Aside0 (bulletinref15_Lines.l0 kq a0 x3_1 x4_1 = some r) ∧ Aside0 (kq ≤ k) ∧ Aside0 (Kd.R Kd.string 9 w' w.heap.size (fun _ => True) v3 x3_1) ∧ Aside0 (Below w.heap.size w w'))
  case atStart => exact ⟨(([] : List ByteArray)), (0), (by first | rfl | (simp; done) | (simp [*]; done)), H', ⟨Nat.le_refl _⟩, ⟨by first | exact Kd.R_nil _ _ _ _ _ | exact Kd.N_nil _ _ _ _ _ | exact Kd.V_nil _ _ _ _ _ | exact Kd.Q_nil _ _ _ _ _ | exact Kd.S_nil _ _ _ _ _⟩, ⟨by repeat (first | (with_reducible first | exact HB.out | apply below_alloc | apply pw_below_drewN | apply below_drew1) | exact HB.out)⟩⟩
  case round =>
    clear H'
    obtain ⟨x3_1, x4_1, rfl, HA, HK1, HO_3, HB⟩ := hrel
    cases gk with
    | zero => exact absurd HA.out (by simp [bulletinref15_Lines.l0])
    | succ k1 =>
      have H := HA.out
      clear HA
      simp only [bulletinref15_Lines.l0] at H
      by_cases c2 : x4_1 < (a0.size : Int)
      · rw [if_pos c2] at H
        have c2b0 : decide (x4_1 < (a0.size : Int)) = true := decide_eq_true c2
        clear c2
        replace H := Option.bind_eq_some_iff.mp H
        obtain ⟨t238, A30, H⟩ := H
        replace H : (if 0 ≤ x4_1 then (if x4_1 ≤ t238 then (if t238 ≤ (a0.size : Int) then (if x3_1.length < 8796093022208 then (bulletinref15_Lines.l0 k1 a0 (x3_1 ++ [a0.extract (x4_1 : Int).toNat (t238 : Int).toNat]) (wrap64 (t238 + 1))) else (none)) else (none)) else (none)) else (none)) = some r := H
        have A3 := Aside0.mk A30
        clear A30
        by_cases c4 : 0 ≤ x4_1
        · rw [if_pos c4] at H
          have c4b0 := eq_true c4
          have c4b1 : decide (0 ≤ x4_1) = true := decide_eq_true c4
          clear c4
          by_cases c5 : x4_1 ≤ t238
          · rw [if_pos c5] at H
            have c5b0 := eq_true c5
            have c5b1 : decide (x4_1 ≤ t238) = true := decide_eq_true c5
            clear c5
            by_cases c6 : t238 ≤ (a0.size : Int)
            · rw [if_pos c6] at H
              have c6b0 := eq_true c6
              have c6b1 : decide (t238 ≤ (a0.size : Int)) = true := decide_eq_true c6
              clear c6
              by_cases c7 : x3_1.length < 8796093022208
              · rw [if_pos c7] at H
                have LMc7 := Aside0.mk c7
                clear c7
                obtain ⟨y239, hy239⟩ : ∃ y_ : List ByteArray, y_ = (x3_1 ++ [a0.extract (x4_1 : Int).toNat (t238 : Int).toNat]) := ⟨_, rfl⟩
                replace H : (bulletinref15_Lines.l0 k1 a0 y239 (wrap64 (t238 + 1))) = some r := by first | (rw [hy239]; with_reducible exact H) | (have H2_ := (Option.bind_some _ _).symm.trans H; rw [hy239]; with_reducible exact H2_) | (have H2_ := (Option.bind_some _ _).symm.trans H; with_reducible exact H2_) | with_reducible exact H | (rw [hy239]; exact H) | exact H
                have Ny239 := Aside0.mk hy239
                clear hy239
                have H' := Aside0.mk H
                clear H
                go_wp2_with (first | ((with_reducible refine gate_callee (f := 37) rfl ?_); refine goesL_ (some 12) rfl rfl Tryz.func37 (by kernel_rfl) rfl #[.string a0, .int .i64 x4_1] rfl (by (try simp only [List.map_toArray, List.map_cons, List.map_nil]); first | done | rfl | (simp only [List.length_drop, List.length_take]; rfl)) ?_; (with_reducible refine (bulletinref15_end.calls k1 a0 x4_1 t238 _ A3.out).mono ?_); rintro e w' ⟨rfl, ⟨nd, rfl⟩⟩; refine ⟨_, rfl, ?_⟩) | ((with_reducible refine gate_builtin (b := .append) (xs := #[.tmp 13, .tmp 18]) rfl ?_); at_builtin; refine Kd.R_append Kd.string (w0 := w) w.heap.size rfl (.tmp 13) (.tmp 18) 51 9 (.string ⟨#[]⟩) 16 rfl Tryz.underlying51 info9 rfl (by decide) (by omega) u3 x3_1 (a0.extract (x4_1 : Int).toNat (t238 : Int).toNat) [.string (a0.extract (x4_1 : Int).toNat (t238 : Int).toNat)] (fun _ => True) (fun _ => False) rfl rfl ?aP (fun _ hk => hk.elim) ?aF ?aO ?aB ?aS ?aL ?_; (case aP => exact rfl); (case aB => exact (by repeat (first | (with_reducible first | exact HB.out | apply below_alloc | apply pw_below_drewN | apply below_drew1) | exact HB.out))); (case aF => exact (fun _ _ => trivial)); (case aO => exact (by (with_reducible repeat (first | apply Kd.R_alloc | apply Kd.R_drewN | apply Kd.R_drew)); exact HO_3.out)); (case aS => exact (below_size (by repeat (first | (with_reducible first | exact HB.out | apply below_alloc | apply pw_below_drewN | apply below_drew1) | exact HB.out)))); (case aL => have := LMc7.out; omega); intro v240 w8 ho hb hg hat; rw [← Ny239.out] at ho; have n0_ := Aside0.mk (hb); have n1_ := Aside0.mk (ho); clear HB; clear HO_3; have HB := n0_; have HO241 := n1_; clear n0_ n1_; clear ho hb hg hat))
                go_roundg k1
                case measure => have := HK1.out; omega
                case rel => exact ⟨(y239), (wrap64 (t238 + 1)), (by first | rfl | (simp; done) | (simp [*]; done)), H', ⟨by have := HK1.out; omega⟩, ⟨by (with_reducible repeat (first | apply Kd.R_alloc | apply Kd.R_drewN | apply Kd.R_drew)); exact HO241.out⟩, ⟨by repeat (first | (with_reducible first | exact HB.out | apply below_alloc | apply pw_below_drewN | apply below_drew1) | exact HB.out)⟩⟩
              · rw [if_neg c7] at H
                exact absurd H (by simp)
            · rw [if_neg c6] at H
              exact absurd H (by simp)
          · rw [if_neg c5] at H
            exact absurd H (by simp)
        · rw [if_neg c4] at H
          exact absurd H (by simp)
      · rw [if_neg c2] at H
        have c2b0 : decide (x4_1 < (a0.size : Int)) = false := decide_eq_false c2
        clear c2
        obtain rfl := Option.some.inj H
        go_wp2
        go_ret
        exact ⟨_, by first | rfl | (simp [errW_none, errW_some] <;> rfl) | (simp [*, errW_none, errW_some] <;> rfl), by (with_reducible repeat (first | apply Kd.R_alloc | apply Kd.R_drewN | apply Kd.R_drew)); exact HO_3.out, by repeat (first | (with_reducible first | exact HB.out | apply below_alloc | apply pw_below_drewN | apply below_drew1) | exact HB.out)⟩

end Go.Proofs.YtfeciafdioepiaaGreatDoor.PA
namespace Go.Proofs.YtfeciafdioepiaaGreatDoor.PA
open Go.RowKit Go.Proofs.YtfeciafdioepiaaGreatDoorW.PrintWords Go.Proofs.YtfeciafdioepiaaGreatDoorW.PrintLast Go.Proofs.YtfeciafdioepiaaGreatDoorW.PrintMore
attribute [local go_sem] max2_int min2_int max_two min_two max_three min_three max_four min_four   -- for this text's walks alone
set_option linter.unusedVariables false
set_option linter.unusedSimpArgs false

/-! ### bulletinlaw15_to: function 25 -/
-- NOT PRINTED: function 26 (article_Article_Check)

-- NOT PRINTED: function 7 (bulletinlaw15_ArticlePrints)

-- NOT PRINTED: function 27 (article_Strip)

/-! ### bulletinref15_Strip: function 28 -/
def bulletinref15_Strip.l0 : Nat → Int → ByteArray → List ByteArray → Int → Option (ByteArray × Int)
  | 0, _, _, _, _ => none
  | k + 1, x1, x8, x9, x10 => if x10 < (x9.length : Int) then (if 0 ≤ x10 then ((bulletinref15_Level.f k (rdOf ByteArray.empty x9 x10)).bind fun bt280 => (if bt280.1 < x1 then (if (rdOf ByteArray.empty x9 x10).size + 1 ≤ 9223372036854775807 then (if x8.size + ((rdOf ByteArray.empty x9 x10) ++ (⟨#[10]⟩ : ByteArray)).size ≤ 9223372036854775807 then (bulletinref15_Strip.l0 k x1 (x8 ++ ((rdOf ByteArray.empty x9 x10) ++ (⟨#[10]⟩ : ByteArray))) x9 (wrap64 (x10 + 1))) else (none)) else (none)) else (bulletinref15_Strip.l0 k x1 x8 x9 (wrap64 (x10 + 1))))) else (none)) else (some (x8, 0))
def bulletinref15_Strip.f (k : Nat) (a0 : ByteArray) (a1 : Int) : Option (ByteArray × Int) := if a1 < 1 then (some ((⟨#[]⟩ : ByteArray), 2)) else ((bulletinref15_Body.f k a0).bind fun bt274 => (if bt274.2 = 0 then ((bulletinref15_Lines.f k a0).bind fun t276 => (bulletinref15_Strip.l0 k a1 (⟨#[]⟩ : ByteArray) t276 0)) else (some ((⟨#[]⟩ : ByteArray), bt274.2))))
set_option maxHeartbeats 8000000 in
set_option maxRecDepth 100000 in
theorem bulletinref15_Strip.calls (k : Nat) (a0 : ByteArray) (a1 : Int) (r1 : ByteArray) (r2 : Int) (w : World) (h : bulletinref15_Strip.f k a0 a1 = some (r1, r2)) :
    Calls Tryz.prog 28 #[.string a0, .int .i64 a1] w fun e w' => e = .returned (.tuple #[.string r1, .int .i64 r2]) ∧ Below w.heap.size w w' := by
  have HB := Aside0.mk (Below.refl w.heap.size w)
  have H : (if a1 < 1 then (some ((⟨#[]⟩ : ByteArray), 2)) else ((bulletinref15_Body.f k a0).bind fun bt274 => (if bt274.2 = 0 then ((bulletinref15_Lines.f k a0).bind fun t276 => (bulletinref15_Strip.l0 k a1 (⟨#[]⟩ : ByteArray) t276 0)) else (some ((⟨#[]⟩ : ByteArray), bt274.2))))) = some (r1, r2) := h
  clear h
  by_cases c3 : a1 < 1
  · rw [if_pos c3] at H
    have c3b0 : decide (a1 < 1) = true := decide_eq_true c3
    clear c3
    simp only [Option.some.injEq, Prod.mk.injEq] at H
    obtain ⟨rfl, rfl⟩ := H
    go_enter Tryz.func28, Tryz.ntmps28
    go_wp2
    go_ret2
    exact ⟨by first | rfl | (simp [errW_none, errW_some] <;> rfl) | (simp [*, errW_none, errW_some] <;> rfl), by repeat (first | (with_reducible first | exact HB.out | apply below_alloc | apply pw_below_drewN | apply below_drew1) | exact HB.out)⟩
  · rw [if_neg c3] at H
    have c3b0 : decide (a1 < 1) = false := decide_eq_false c3
    clear c3
    replace H := Option.bind_eq_some_iff.mp H
    obtain ⟨⟨t274, t275⟩, A40, H⟩ := H
    replace H : (if t275 = 0 then ((bulletinref15_Lines.f k a0).bind fun t276 => (bulletinref15_Strip.l0 k a1 (⟨#[]⟩ : ByteArray) t276 0)) else (some ((⟨#[]⟩ : ByteArray), t275))) = some (r1, r2) := H
    have A4 := Aside0.mk A40
    clear A40
    by_cases c5 : t275 = 0
    · rw [if_pos c5] at H
      have c5b0 : (t275 == 0) = true := beq_iff_eq.mpr c5
      have c5b1 : (t275 != 0) = false := bne_eq_false_iff_eq.mpr c5
      clear c5
      replace H := Option.bind_eq_some_iff.mp H
      obtain ⟨t276, A60, H⟩ := H
      replace H : (bulletinref15_Strip.l0 k a1 (⟨#[]⟩ : ByteArray) t276 0) = some (r1, r2) := H
      have A6 := Aside0.mk A60
      clear A60
      have H' := Aside0.mk H
      clear H
      go_enter Tryz.func28, Tryz.ntmps28
      go_wp2_with (first | ((with_reducible refine gate_callee (f := 18) rfl ?_); refine goesL_ (some 17) rfl rfl Tryz.func18 (by kernel_rfl) rfl #[.string a0] rfl (by (try simp only [List.map_toArray, List.map_cons, List.map_nil]); first | done | rfl | (simp only [List.length_drop, List.length_take]; rfl)) ?_; (with_reducible refine (bulletinref15_Body.calls k a0 t274 t275 _ A4.out).mono ?_); rintro e w7 ⟨rfl, hb⟩; refine ⟨_, rfl, ?_⟩; have n0_ := Aside0.mk (below_step (by repeat (first | (with_reducible first | exact HB.out | apply below_alloc | apply pw_below_drewN | apply below_drew1) | exact HB.out)) hb); clear HB; have HB := n0_; clear n0_; (try clear hb); (try clear hb2); (try clear hk); (try clear hi)) | ((with_reducible refine gate_callee (f := 23) rfl ?_); refine goesL_ (some 24) rfl rfl Tryz.func23 (by kernel_rfl) rfl #[.string a0] rfl (by (try simp only [List.map_toArray, List.map_cons, List.map_nil]); first | done | rfl | (simp only [List.length_drop, List.length_take]; rfl)) ?_; (with_reducible refine (bulletinref15_Lines.calls k a0 t276 _ A6.out).mono ?_); rintro e w8 ⟨v277, rfl, ho0, hb⟩; refine ⟨_, rfl, ?_⟩; have n0_ := Aside0.mk (Kd.R_lower ho0 (below_size (by repeat (first | (with_reducible first | exact HB.out | apply below_alloc | apply pw_below_drewN | apply below_drew1) | exact HB.out)))); have n1_ := Aside0.mk (below_step (by repeat (first | (with_reducible first | exact HB.out | apply below_alloc | apply pw_below_drewN | apply below_drew1) | exact HB.out)) hb); clear HB; have HO278 := n0_; have HB := n1_; clear n0_ n1_; (try clear hb); (try clear hb2); (try clear hk); (try clear hi); (try clear ho0)))
      go_loopg [8, 10] k (fun kq v8 v10 w' => ∃ (x8_1 : ByteArray) (x10_1 : Int), v8 = .string x8_1 ∧ v10 = .int .i64 x10_1 ∧ Aside0 (bulletinref15_Strip.l0 kq a1 x8_1 t276 x10_1 = some (r1, r2)) ∧ Aside0 (kq ≤ k) ∧ Aside0 (Kd.R Kd.string 9 w' w.heap.size (fun _ => True) v277 t276) ∧ Aside0 (Below w.heap.size w w'))
      case atStart => exact ⟨((⟨#[]⟩ : ByteArray)), (0), (by first | rfl | (simp; done) | (simp [*]; done)), (by first | rfl | (simp; done) | (simp [*]; done)), H', ⟨Nat.le_refl _⟩, ⟨by (with_reducible repeat (first | apply Kd.R_alloc | apply Kd.R_drewN | apply Kd.R_drew)); exact HO278.out⟩, ⟨by repeat (first | (with_reducible first | exact HB.out | apply below_alloc | apply pw_below_drewN | apply below_drew1) | exact HB.out)⟩⟩
      case round =>
        clear H'
        try clear c1
        try clear c2
        try clear p2
        try clear c3
        try clear c3b0
        try clear c5
        try clear c5b0
        try clear c5b1
        obtain ⟨x8_1, x10_1, rfl, rfl, HA, HK1, HO_9, HB⟩ := hrel
        cases gk with
        | zero => exact absurd HA.out (by simp [bulletinref15_Strip.l0])
        | succ k1 =>
          have H := HA.out
          clear HA
          simp only [bulletinref15_Strip.l0] at H
          by_cases c9 : x10_1 < (t276.length : Int)
          · rw [if_pos c9] at H
            have c9b0 : decide (x10_1 < (t276.length : Int)) = true := decide_eq_true c9
            clear c9
            by_cases c10 : 0 ≤ x10_1
            · rw [if_pos c10] at H
              have c10b0 : decide (0 ≤ x10_1) = true := decide_eq_true c10
              clear c10
              replace H := Option.bind_eq_some_iff.mp H
              obtain ⟨⟨t280, t281⟩, A110, H⟩ := H
              replace H : (if t280 < a1 then (if (rdOf ByteArray.empty t276 x10_1).size + 1 ≤ 9223372036854775807 then (if x8_1.size + ((rdOf ByteArray.empty t276 x10_1) ++ (⟨#[10]⟩ : ByteArray)).size ≤ 9223372036854775807 then (bulletinref15_Strip.l0 k1 a1 (x8_1 ++ ((rdOf ByteArray.empty t276 x10_1) ++ (⟨#[10]⟩ : ByteArray))) t276 (wrap64 (x10_1 + 1))) else (none)) else (none)) else (bulletinref15_Strip.l0 k1 a1 x8_1 t276 (wrap64 (x10_1 + 1)))) = some (r1, r2) := H
              have A11 := Aside0.mk A110
              clear A110
              by_cases c12 : t280 < a1
              · rw [if_pos c12] at H
                have c12b0 : decide (t280 < a1) = true := decide_eq_true c12
                clear c12
                by_cases c13 : (rdOf ByteArray.empty t276 x10_1).size + 1 ≤ 9223372036854775807
                · rw [if_pos c13] at H
                  have c13b0 := eq_true c13
                  have c13b1 : decide ((rdOf ByteArray.empty t276 x10_1).size + 1 ≤ 9223372036854775807) = true := decide_eq_true c13
                  try have c13b2 : (9223372036854775807 < (rdOf ByteArray.empty t276 x10_1).size + 1) = False := eq_false (Nat.not_lt.2 c13)
                  by_cases c14 : x8_1.size + ((rdOf ByteArray.empty t276 x10_1) ++ (⟨#[10]⟩ : ByteArray)).size ≤ 9223372036854775807
                  · rw [if_pos c14] at H
                    have c14b0 := eq_true c14
                    have c14b1 : decide (x8_1.size + ((rdOf ByteArray.empty t276 x10_1) ++ (⟨#[10]⟩ : ByteArray)).size ≤ 9223372036854775807) = true := decide_eq_true c14
                    try have c14b2 : (9223372036854775807 < x8_1.size + ((rdOf ByteArray.empty t276 x10_1) ++ (⟨#[10]⟩ : ByteArray)).size) = False := eq_false (Nat.not_lt.2 c14)
                    have H' := Aside0.mk H
                    clear H
                    obtain ⟨Ao15, co15, eo15⟩ := Kd.R_slice HO_9.out
                    subst eo15
                    have p279 : 0 ≤ (x10_1 : Int) := of_decide_eq_true (by first | (with_reducible assumption) | assumption)
                    have q279 : x10_1 < (t276.length : Int) := of_decide_eq_true (by first | (with_reducible assumption) | assumption)
                    obtain ⟨ad279, e279, hx279_0⟩ := Kd.at_string (Kd.R_reads' HO_9.out).2.2 x10_1 p279 q279
                    cases e279
                    replace p279 := eq_true p279
                    replace q279 := eq_true q279
                    go_wp2_with (first | ((with_reducible refine gate_callee (f := 51) rfl ?_); refine goesL_ (some 36) rfl rfl Tryz.func51 (by kernel_rfl) rfl #[.string (rdOf ByteArray.empty t276 x10_1)] rfl (by (try simp only [List.map_toArray, List.map_cons, List.map_nil]); first | done | rfl | (simp only [List.length_drop, List.length_take]; rfl)) ?_; (with_reducible refine (bulletinref15_Level.calls k1 (rdOf ByteArray.empty t276 x10_1) t280 t281 _ A11.out).mono ?_); rintro e w' ⟨rfl, ⟨nd, rfl⟩⟩; refine ⟨_, rfl, ?_⟩; have p282 : 0 ≤ (x10_1 : Int) := of_decide_eq_true (by first | (with_reducible assumption) | assumption); have q282 : x10_1 < (t276.length : Int) := of_decide_eq_true (by first | (with_reducible assumption) | assumption); obtain ⟨ad282, e282, hx282_0⟩ := Kd.at_string (Kd.R_reads' HO_9.out).2.2 x10_1 p282 q282; obtain rfl : ad279 = ad282 := (by injection e282); replace p282 := eq_true p282; replace q282 := eq_true q282))
                    go_roundg k1
                    case measure => have := HK1.out; omega
                    case rel => exact ⟨(x8_1 ++ ((rdOf ByteArray.empty t276 x10_1) ++ (⟨#[10]⟩ : ByteArray))), (wrap64 (x10_1 + 1)), (by first | rfl | (simp; done) | (simp [*]; done)), (by first | rfl | (simp; done) | (simp [*]; done)), H', ⟨by have := HK1.out; omega⟩, ⟨by (with_reducible repeat (first | apply Kd.R_alloc | apply Kd.R_drewN | apply Kd.R_drew)); exact HO_9.out⟩, ⟨by repeat (first | (with_reducible first | exact HB.out | apply below_alloc | apply pw_below_drewN | apply below_drew1) | exact HB.out)⟩⟩
                  · rw [if_neg c14] at H
                    exact absurd H (by simp)
                · rw [if_neg c13] at H
                  exact absurd H (by simp)
              · rw [if_neg c12] at H
                have c12b0 : decide (t280 < a1) = false := decide_eq_false c12
                clear c12
                have H' := Aside0.mk H
                clear H
                obtain ⟨Ao16, co16, eo16⟩ := Kd.R_slice HO_9.out
                subst eo16
                have p279 : 0 ≤ (x10_1 : Int) := of_decide_eq_true (by first | (with_reducible assumption) | assumption)
                have q279 : x10_1 < (t276.length : Int) := of_decide_eq_true (by first | (with_reducible assumption) | assumption)
                obtain ⟨ad279, e279, hx279_0⟩ := Kd.at_string (Kd.R_reads' HO_9.out).2.2 x10_1 p279 q279
                cases e279
                replace p279 := eq_true p279
                replace q279 := eq_true q279
                go_wp2_with (first | ((with_reducible refine gate_callee (f := 51) rfl ?_); refine goesL_ (some 36) rfl rfl Tryz.func51 (by kernel_rfl) rfl #[.string (rdOf ByteArray.empty t276 x10_1)] rfl (by (try simp only [List.map_toArray, List.map_cons, List.map_nil]); first | done | rfl | (simp only [List.length_drop, List.length_take]; rfl)) ?_; (with_reducible refine (bulletinref15_Level.calls k1 (rdOf ByteArray.empty t276 x10_1) t280 t281 _ A11.out).mono ?_); rintro e w' ⟨rfl, ⟨nd, rfl⟩⟩; refine ⟨_, rfl, ?_⟩))
                go_roundg k1
                case measure => have := HK1.out; omega
                case rel => exact ⟨(x8_1), (wrap64 (x10_1 + 1)), (by first | rfl | (simp; done) | (simp [*]; done)), (by first | rfl | (simp; done) | (simp [*]; done)), H', ⟨by have := HK1.out; omega⟩, ⟨by (with_reducible repeat (first | apply Kd.R_alloc | apply Kd.R_drewN | apply Kd.R_drew)); exact HO_9.out⟩, ⟨by repeat (first | (with_reducible first | exact HB.out | apply below_alloc | apply pw_below_drewN | apply below_drew1) | exact HB.out)⟩⟩
            · rw [if_neg c10] at H
              exact absurd H (by simp)
          · rw [if_neg c9] at H
            have c9b0 : decide (x10_1 < (t276.length : Int)) = false := decide_eq_false c9
            clear c9
            simp only [Option.some.injEq, Prod.mk.injEq] at H
            obtain ⟨rfl, rfl⟩ := H
            obtain ⟨Ao17, co17, eo17⟩ := Kd.R_slice HO_9.out
            subst eo17
            go_wp2
            go_ret2
            exact ⟨by first | rfl | (simp [errW_none, errW_some] <;> rfl) | (simp [*, errW_none, errW_some] <;> rfl), by repeat (first | (with_reducible first | exact HB.out | apply below_alloc | apply pw_below_drewN | apply below_drew1) | exact HB.out)⟩
    · rw [if_neg c5] at H
      have c5b0 : (t275 == 0) = false := beq_eq_false_iff_ne.mpr c5
      have c5b1 : (t275 != 0) = true := bne_iff_ne.mpr c5
      simp only [Option.some.injEq, Prod.mk.injEq] at H
      obtain ⟨rfl, rfl⟩ := H
      go_enter Tryz.func28, Tryz.ntmps28
      go_wp2_with (first | ((with_reducible refine gate_callee (f := 18) rfl ?_); refine goesL_ (some 17) rfl rfl Tryz.func18 (by kernel_rfl) rfl #[.string a0] rfl (by (try simp only [List.map_toArray, List.map_cons, List.map_nil]); first | done | rfl | (simp only [List.length_drop, List.length_take]; rfl)) ?_; (with_reducible refine (bulletinref15_Body.calls k a0 t274 t275 _ A4.out).mono ?_); rintro e w18 ⟨rfl, hb⟩; refine ⟨_, rfl, ?_⟩; have n0_ := Aside0.mk (below_step (by repeat (first | (with_reducible first | exact HB.out | apply below_alloc | apply pw_below_drewN | apply below_drew1) | exact HB.out)) hb); clear HB; have HB := n0_; clear n0_; (try clear hb); (try clear hb2); (try clear hk); (try clear hi)))
      go_ret2
      exact ⟨by first | rfl | (simp [errW_none, errW_some] <;> rfl) | (simp [*, errW_none, errW_some] <;> rfl), by repeat (first | (with_reducible first | exact HB.out | apply below_alloc | apply pw_below_drewN | apply below_drew1) | exact HB.out)⟩

-- NOT PRINTED: function 8 (bulletinlaw15_ArticleStrips)

-- NOT PRINTED: function 54 (strings_Contains)

/-! ### stringslite_HasSuffix: function 81 -/
/-! ### strings_HasSuffix: function 55 -/
-- NOT PRINTED: function 128 (utf8_RuneCountInString)

-- NOT PRINTED: function 129 (bytealg_CountString)

-- NOT PRINTED: function 105 (strings_Count)

-- NOT PRINTED: function 82 (strings_Replace)

-- NOT PRINTED: function 56 (strings_ReplaceAll)

-- NOT PRINTED: function 29 (article_ToLine)

end Go.Proofs.YtfeciafdioepiaaGreatDoor.PA
