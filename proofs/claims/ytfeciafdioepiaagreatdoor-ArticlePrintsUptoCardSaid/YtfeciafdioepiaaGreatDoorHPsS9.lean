/- Functions and contracts. -/
import Derived.Test.YtfeciafdioepiaaGreatDoorHPsS2
import Derived.Test.YtfeciafdioepiaaGreatDoorHPsS6
import Derived.Test.YtfeciafdioepiaaGreatDoorHPsS8
import Derived.Test.YtfeciafdioepiaaGreatDoorHPsS5
namespace Go.Proofs.YtfeciafdioepiaaGreatDoor.PA
open Go.RowKit Go.Proofs.YtfeciafdioepiaaGreatDoorW.PrintWords Go.Proofs.YtfeciafdioepiaaGreatDoorW.PrintLast Go.Proofs.YtfeciafdioepiaaGreatDoorW.PrintMore
attribute [local go_sem] max2_int min2_int max_two min_two max_three min_three max_four min_four   -- for this text's walks alone
set_option linter.unusedVariables false
set_option linter.unusedSimpArgs false

/-! ### bulletinref09_Check: function 72 -/
def bulletinref09_Check.l0 : Nat → List ByteArray → Int → Option (Int)
  | 0, _, _ => none
  | k + 1, x3, x4 => if x4 < (x3.length : Int) then (if 0 ≤ x4 then (if ((rdOf ByteArray.empty x3 x4).size : Int) > 900 then (some 5) else (bulletinref09_Check.l0 k x3 (wrap64 (x4 + 1)))) else (none)) else (some 0)
def bulletinref09_Check.f (k : Nat) (a0_0 : ByteArray) (a0_1 : ByteArray) : Option (Int) := (bulletinref09_ValidName.f k a0_0).bind fun t214 => (if t214 = true then ((bulletinref01_Printable.f k a0_1).bind fun t215 => (if t215 ≥ 0 then (some 6) else ((bulletinref01_Squeeze.f k a0_1).bind fun t216 => (if t216.toList = a0_1.toList then (if (a0_1.size : Int) > 8192 then (some 5) else ((bulletinref01_Words.f k a0_1).bind fun t217 => (bulletinref09_Check.l0 k t217 0))) else (some 3))))) else (some 12))
set_option maxHeartbeats 8000000 in
set_option maxRecDepth 100000 in
theorem bulletinref09_Check.calls (k : Nat) (a0_0 : ByteArray) (a0_1 : ByteArray) (r : Int) (w : World) (h : bulletinref09_Check.f k a0_0 a0_1 = some r) :
    Calls Tryz.prog 72 #[.agg #[.string a0_0, .string a0_1]] w fun e w' => e = .returned (.int .i64 r) ∧ Below w.heap.size w w' := by
  have hu78 := Tryz.underlying78
  have HB := Aside0.mk (Below.refl w.heap.size w)
  have H : ((bulletinref09_ValidName.f k a0_0).bind fun t214 => (if t214 = true then ((bulletinref01_Printable.f k a0_1).bind fun t215 => (if t215 ≥ 0 then (some 6) else ((bulletinref01_Squeeze.f k a0_1).bind fun t216 => (if t216.toList = a0_1.toList then (if (a0_1.size : Int) > 8192 then (some 5) else ((bulletinref01_Words.f k a0_1).bind fun t217 => (bulletinref09_Check.l0 k t217 0))) else (some 3))))) else (some 12))) = some r := h
  clear h
  replace H := Option.bind_eq_some_iff.mp H
  obtain ⟨t214, A20, H⟩ := H
  replace H : (if t214 = true then ((bulletinref01_Printable.f k a0_1).bind fun t215 => (if t215 ≥ 0 then (some 6) else ((bulletinref01_Squeeze.f k a0_1).bind fun t216 => (if t216.toList = a0_1.toList then (if (a0_1.size : Int) > 8192 then (some 5) else ((bulletinref01_Words.f k a0_1).bind fun t217 => (bulletinref09_Check.l0 k t217 0))) else (some 3))))) else (some 12)) = some r := H
  have A2 := Aside0.mk A20
  clear A20
  by_cases c3 : t214 = true
  · subst c3
    have H1 : ((bulletinref01_Printable.f k a0_1).bind fun t215 => (if t215 ≥ 0 then (some 6) else ((bulletinref01_Squeeze.f k a0_1).bind fun t216 => (if t216.toList = a0_1.toList then (if (a0_1.size : Int) > 8192 then (some 5) else ((bulletinref01_Words.f k a0_1).bind fun t217 => (bulletinref09_Check.l0 k t217 0))) else (some 3))))) = some r := by rw [if_pos rfl] at H; exact H
    clear H
    have H := H1
    clear H1
    replace H := Option.bind_eq_some_iff.mp H
    obtain ⟨t215, A40, H⟩ := H
    replace H : (if t215 ≥ 0 then (some 6) else ((bulletinref01_Squeeze.f k a0_1).bind fun t216 => (if t216.toList = a0_1.toList then (if (a0_1.size : Int) > 8192 then (some 5) else ((bulletinref01_Words.f k a0_1).bind fun t217 => (bulletinref09_Check.l0 k t217 0))) else (some 3)))) = some r := H
    have A4 := Aside0.mk A40
    clear A40
    by_cases c5 : t215 ≥ 0
    · rw [if_pos c5] at H
      have c5b0 : decide (0 ≤ t215) = true := decide_eq_true c5
      clear c5
      obtain rfl := Option.some.inj H
      go_enter Tryz.func72, Tryz.ntmps72
      go_wp2_with (first | ((with_reducible refine gate_dst (N := 1) rfl ?_); refine box_event ?hg (N := 1) ?hd (cs := #[.string a0_0, .string a0_1]) (t := 78) ?hr ?_; (case hd => rfl); (case hg => rfl); (case hr => first | (go_simp; done) | (go_simp; rfl)); intro gb213 hg w6 hbox hb; have n0_ := Aside0.mk (below_step (by repeat (first | (with_reducible first | exact HB.out | apply below_alloc | apply pw_below_drewN | apply below_drew1) | exact HB.out)) hb); have n1_ := Aside0.mk (hbox); have n2_ := Aside0.mk ((by rw [hg]; exact (below_size (by repeat (first | (with_reducible first | exact HB.out | apply below_alloc | apply pw_below_drewN | apply below_drew1) | exact HB.out))) : w.heap.size ≤ gb213)); have n3_ := Aside0.mk ((by rw [hg]; exact (below_size (by repeat (first | (with_reducible first | exact HB.out | apply below_alloc | apply pw_below_drewN | apply below_drew1) | exact HB.out))) : w.heap.size ≤ gb213)); clear HB; have HB := n0_; have BK213 := n1_; have GW213 := n2_; have GE213 := n3_; clear n0_ n1_ n2_ n3_; clear hb hbox hg; have hcz7_0 : w6.cell? ⟨gb213, 0, none⟩ = some (.string a0_0) := (blk_cell BK213.out 0).trans rfl; have hcz7_1 : w6.cell? ⟨gb213, 1, none⟩ = some (.string a0_1) := (blk_cell BK213.out 1).trans rfl; have hfz7_0 := blk_frozen BK213.out 0; have hfz7_1 := blk_frozen BK213.out 1) | ((with_reducible refine gate_callee (f := 62) rfl ?_); refine goesL_ (some 7) rfl rfl Tryz.func62 (by kernel_rfl) rfl #[.string a0_0] rfl (by (try simp only [List.map_toArray, List.map_cons, List.map_nil]); first | done | rfl | (simp only [List.length_drop, List.length_take]; rfl)) ?_; (with_reducible refine (bulletinref09_ValidName.calls k a0_0 true _ A2.out).mono ?_); rintro e w' ⟨rfl, ⟨nd, rfl⟩⟩; refine ⟨_, rfl, ?_⟩) | ((with_reducible refine gate_callee (f := 98) rfl ?_); refine goesL_ (some 11) rfl rfl Tryz.func98 (by kernel_rfl) rfl #[.string a0_1] rfl (by (try simp only [List.map_toArray, List.map_cons, List.map_nil]); first | done | rfl | (simp only [List.length_drop, List.length_take]; rfl)) ?_; (with_reducible refine (bulletinref01_Printable.calls k a0_1 t215 _ A4.out).mono ?_); rintro e w' ⟨rfl, ⟨nd, rfl⟩⟩; refine ⟨_, rfl, ?_⟩))
      go_ret
      exact ⟨by first | rfl | (simp [errW_none, errW_some] <;> rfl) | (simp [*, errW_none, errW_some] <;> rfl), by repeat (first | (with_reducible first | exact HB.out | apply below_alloc | apply pw_below_drewN | apply below_drew1 | refine below_set ?_ GE213.out) | exact HB.out)⟩
    · rw [if_neg c5] at H
      have c5b0 : decide (0 ≤ t215) = false := decide_eq_false c5
      clear c5
      replace H := Option.bind_eq_some_iff.mp H
      obtain ⟨t216, A80, H⟩ := H
      replace H : (if t216.toList = a0_1.toList then (if (a0_1.size : Int) > 8192 then (some 5) else ((bulletinref01_Words.f k a0_1).bind fun t217 => (bulletinref09_Check.l0 k t217 0))) else (some 3)) = some r := H
      have A8 := Aside0.mk A80
      clear A80
      by_cases c9 : t216.toList = a0_1.toList
      · rw [if_pos c9] at H
        have c9b0 : (t216.toList == a0_1.toList) = true := beq_iff_eq.mpr c9
        have c9b1 : (t216.toList != a0_1.toList) = false := bne_eq_false_iff_eq.mpr c9
        clear c9
        by_cases c10 : (a0_1.size : Int) > 8192
        · rw [if_pos c10] at H
          have c10b0 : decide (8192 < (a0_1.size : Int)) = true := decide_eq_true c10
          have c10b1 : decide (8192 < a0_1.size) = true := decide_eq_true (by omega)
          clear c10
          obtain rfl := Option.some.inj H
          go_enter Tryz.func72, Tryz.ntmps72
          try go_wp2_with (first | ((with_reducible refine gate_dst (N := 1) rfl ?_); refine box_event ?hg (N := 1) ?hd (cs := #[.string a0_0, .string a0_1]) (t := 78) ?hr ?_; (case hd => rfl); (case hg => rfl); (case hr => first | (go_simp; done) | (go_simp; rfl)); intro gb213 hg w11 hbox hb; have n0_ := Aside0.mk (below_step (by repeat (first | (with_reducible first | exact HB.out | apply below_alloc | apply pw_below_drewN | apply below_drew1) | exact HB.out)) hb); have n1_ := Aside0.mk (hbox); have n2_ := Aside0.mk ((by rw [hg]; exact (below_size (by repeat (first | (with_reducible first | exact HB.out | apply below_alloc | apply pw_below_drewN | apply below_drew1) | exact HB.out))) : w.heap.size ≤ gb213)); have n3_ := Aside0.mk ((by rw [hg]; exact (below_size (by repeat (first | (with_reducible first | exact HB.out | apply below_alloc | apply pw_below_drewN | apply below_drew1) | exact HB.out))) : w.heap.size ≤ gb213)); clear HB; have HB := n0_; have BK213 := n1_; have GW213 := n2_; have GE213 := n3_; clear n0_ n1_ n2_ n3_; clear hb hbox hg; have hcz12_0 : w11.cell? ⟨gb213, 0, none⟩ = some (.string a0_0) := (blk_cell BK213.out 0).trans rfl; have hcz12_1 : w11.cell? ⟨gb213, 1, none⟩ = some (.string a0_1) := (blk_cell BK213.out 1).trans rfl; have hfz12_0 := blk_frozen BK213.out 0; have hfz12_1 := blk_frozen BK213.out 1) | ((with_reducible refine gate_callee (f := 62) rfl ?_); refine goesL_ (some 7) rfl rfl Tryz.func62 (by kernel_rfl) rfl #[.string a0_0] rfl (by (try simp only [List.map_toArray, List.map_cons, List.map_nil]); first | done | rfl | (simp only [List.length_drop, List.length_take]; rfl)) ?_; (with_reducible refine (bulletinref09_ValidName.calls k a0_0 true _ A2.out).mono ?_); rintro e w' ⟨rfl, ⟨nd, rfl⟩⟩; refine ⟨_, rfl, ?_⟩) | ((with_reducible refine gate_callee (f := 98) rfl ?_); refine goesL_ (some 11) rfl rfl Tryz.func98 (by kernel_rfl) rfl #[.string a0_1] rfl (by (try simp only [List.map_toArray, List.map_cons, List.map_nil]); first | done | rfl | (simp only [List.length_drop, List.length_take]; rfl)) ?_; (with_reducible refine (bulletinref01_Printable.calls k a0_1 t215 _ A4.out).mono ?_); rintro e w' ⟨rfl, ⟨nd, rfl⟩⟩; refine ⟨_, rfl, ?_⟩))
          (try (rw [drewN_self w11]; generalize hq_ : World.drewN w11 _ = w11; have n0_ : Aside0 (w11.heap[gb213]? = some (.cells #[.string a0_0, .string a0_1] 78 (0, 0))) := ⟨by rw [← hq_]; exact (by (with_reducible repeat (first | refine blk_drewN ?_ _ | refine blk_drew ?_ | refine blk_alloc ?_ _)); exact BK213.out)⟩; have n1_ : Aside0 (Below w.heap.size w w11) := ⟨by rw [← hq_]; exact (by repeat (first | (with_reducible first | exact HB.out | apply below_alloc | apply pw_below_drewN | apply below_drew1 | refine below_set ?_ GE213.out) | exact HB.out))⟩; clear BK213 HB hq_; have BK213 := n0_; have HB := n1_; clear n0_ n1_))
          have n0_ := Aside0.mk (blk_drew BK213.out)
          have n1_ := Aside0.mk (below_drew1 HB.out)
          clear BK213
          clear HB
          have BK213 := n0_
          have HB := n1_
          clear n0_ n1_
          refine start_ (n := 6) (S := fun w' => w'.cell? ⟨gb213, 0, none⟩ = some (.string a0_0) ∧ w'.cell? ⟨gb213, 1, none⟩ = some (.string a0_1)) (ds := []) #[false, false, false, false, false, false] (by kernel_rfl) rfl rfl ⟨(blk_cell BK213.out 0).trans rfl, (blk_cell BK213.out 1).trans rfl⟩ (fun hHeld => ?_)
          generalize w11.drew = w13 at BK213 HB hHeld ⊢
          refine pure_ (i := 0) (N := some 13) (v := ?_) (a' := ?_) #[true, false, false, false, false, false] rfl rfl (by kernel_rfl) (fun _ _ _ h => h) (Or.inl ⟨by rfl, ?_⟩) ?_ ?_
          rotate_left
          · intro w'
            go_simp
            with_reducible rfl
          rotate_left
          · simp only [Act.put, List.setIfInBounds_toArray, List.set_cons_zero, List.set_cons_succ, i64_w, i32_w]
            rfl
          refine pure_ (i := 3) (N := some 16) (v := ?_) (a' := ?_) #[true, false, false, true, false, false] rfl rfl (by kernel_rfl) (fun _ _ _ h => h) (Or.inl ⟨by rfl, ?_⟩) ?_ ?_
          rotate_left
          · intro w'
            go_simp
            with_reducible rfl
          rotate_left
          · simp only [Act.put, List.setIfInBounds_toArray, List.set_cons_zero, List.set_cons_succ, i64_w, i32_w]
            rfl
          refine take_ (i := 1) (N := some 14) (v := ?_) (a' := ?_) #[true, true, false, true, false, false] rfl rfl (by kernel_rfl) (fun _ _ _ h => h) (Or.inl ⟨by rfl, ?_⟩) hHeld ?_ ?_
          rotate_left
          · rintro w' ⟨s0, s1⟩
            go_simp
            with_reducible rfl
          rotate_left
          · simp only [Act.put, List.setIfInBounds_toArray, List.set_cons_zero, List.set_cons_succ, i64_w, i32_w]
            rfl
          refine take_ (i := 4) (N := some 17) (v := ?_) (a' := ?_) #[true, true, false, true, true, false] rfl rfl (by kernel_rfl) (fun _ _ _ h => h) (Or.inl ⟨by rfl, ?_⟩) hHeld ?_ ?_
          rotate_left
          · rintro w' ⟨s0, s1⟩
            go_simp
            with_reducible rfl
          rotate_left
          · simp only [Act.put, List.setIfInBounds_toArray, List.set_cons_zero, List.set_cons_succ, i64_w, i32_w]
            rfl
          refine one_ (i := 2) (N := some 15) #[true, true, true, true, true, false] rfl rfl (by kernel_rfl) (by decide) (fun K hK => ?_)
          refine goes_ Tryz.func99 (by kernel_rfl) rfl #[.string a0_1] (by rfl) rfl rfl (by (try simp only [List.map_toArray, List.map_cons, List.map_nil]); first | done | rfl | (simp only [List.length_drop, List.length_take]; rfl)) ?_
          with_reducible refine (bulletinref01_Squeeze.calls k a0_1 t216 _ A8.out).mono ?_
          rintro e w14 ⟨rfl, hb⟩
          refine ⟨_, rfl, ?_⟩
          have n0_ := Aside0.mk (blk_below (g := gb213) (o := .cells #[.string a0_0, .string a0_1] 78 (0, 0)) (by (with_reducible repeat (first | refine blk_drewN ?_ _ | refine blk_drew ?_ | refine blk_alloc ?_ _)); exact BK213.out) hb)
          have n1_ := Aside0.mk (below_step (by repeat (first | (with_reducible first | exact HB.out | apply below_alloc | apply pw_below_drewN | apply below_drew1 | refine below_set ?_ GE213.out) | exact HB.out)) hb)
          clear BK213
          clear HB
          have BK213 := n0_
          have HB := n1_
          clear n0_ n1_
          (try clear hb)
          (try clear hb2)
          (try clear hk)
          (try clear hi)
          refine hK.out _ _ ⟨(blk_cell BK213.out 0).trans rfl, (blk_cell BK213.out 1).trans rfl⟩ (fun hHeld => ?_)
          clear hK K
          refine norm_ (a' := ?_) ?_ ?_
          rotate_left
          · show Act.put _ (some 15) _ = _
            simp only [Act.put, List.setIfInBounds_toArray, List.set_cons_zero, List.set_cons_succ, i64_w, i32_w]
            rfl
          refine pure_ (i := 5) (N := some 18) (v := ?_) (a' := ?_) #[true, true, true, true, true, true] rfl rfl (by kernel_rfl) (fun _ _ _ h => h) (Or.inl ⟨by rfl, ?_⟩) ?_ ?_
          rotate_left
          · intro w'
            go_simp
            with_reducible rfl
          rotate_left
          · simp only [Act.put, List.setIfInBounds_toArray, List.set_cons_zero, List.set_cons_succ, i64_w, i32_w]
            rfl
          refine done_ (by kernel_rfl) ?_
          have hcz15_0 : w14.cell? ⟨gb213, 0, none⟩ = some (.string a0_0) := (blk_cell BK213.out 0).trans rfl
          have hcz15_1 : w14.cell? ⟨gb213, 1, none⟩ = some (.string a0_1) := (blk_cell BK213.out 1).trans rfl
          have hfz15_0 := blk_frozen BK213.out 0
          have hfz15_1 := blk_frozen BK213.out 1
          try go_wp2
          go_ret
          exact ⟨by first | rfl | (simp [errW_none, errW_some] <;> rfl) | (simp [*, errW_none, errW_some] <;> rfl), by repeat (first | (with_reducible first | exact HB.out | apply below_alloc | apply pw_below_drewN | apply below_drew1 | refine below_set ?_ GE213.out) | exact HB.out)⟩
        · rw [if_neg c10] at H
          have c10b0 : decide (8192 < (a0_1.size : Int)) = false := decide_eq_false c10
          have c10b1 : decide (8192 < a0_1.size) = false := decide_eq_false (by omega)
          clear c10
          replace H := Option.bind_eq_some_iff.mp H
          obtain ⟨t217, A160, H⟩ := H
          replace H : (bulletinref09_Check.l0 k t217 0) = some r := H
          have A16 := Aside0.mk A160
          clear A160
          have H' := Aside0.mk H
          clear H
          go_enter Tryz.func72, Tryz.ntmps72
          try go_wp2_with (first | ((with_reducible refine gate_dst (N := 1) rfl ?_); refine box_event ?hg (N := 1) ?hd (cs := #[.string a0_0, .string a0_1]) (t := 78) ?hr ?_; (case hd => rfl); (case hg => rfl); (case hr => first | (go_simp; done) | (go_simp; rfl)); intro gb213 hg w17 hbox hb; have n0_ := Aside0.mk (below_step (by repeat (first | (with_reducible first | exact HB.out | apply below_alloc | apply pw_below_drewN | apply below_drew1) | exact HB.out)) hb); have n1_ := Aside0.mk (hbox); have n2_ := Aside0.mk ((by rw [hg]; exact (below_size (by repeat (first | (with_reducible first | exact HB.out | apply below_alloc | apply pw_below_drewN | apply below_drew1) | exact HB.out))) : w.heap.size ≤ gb213)); have n3_ := Aside0.mk ((by rw [hg]; exact (below_size (by repeat (first | (with_reducible first | exact HB.out | apply below_alloc | apply pw_below_drewN | apply below_drew1) | exact HB.out))) : w.heap.size ≤ gb213)); clear HB; have HB := n0_; have BK213 := n1_; have GW213 := n2_; have GE213 := n3_; clear n0_ n1_ n2_ n3_; clear hb hbox hg; have hcz18_0 : w17.cell? ⟨gb213, 0, none⟩ = some (.string a0_0) := (blk_cell BK213.out 0).trans rfl; have hcz18_1 : w17.cell? ⟨gb213, 1, none⟩ = some (.string a0_1) := (blk_cell BK213.out 1).trans rfl; have hfz18_0 := blk_frozen BK213.out 0; have hfz18_1 := blk_frozen BK213.out 1) | ((with_reducible refine gate_callee (f := 62) rfl ?_); refine goesL_ (some 7) rfl rfl Tryz.func62 (by kernel_rfl) rfl #[.string a0_0] rfl (by (try simp only [List.map_toArray, List.map_cons, List.map_nil]); first | done | rfl | (simp only [List.length_drop, List.length_take]; rfl)) ?_; (with_reducible refine (bulletinref09_ValidName.calls k a0_0 true _ A2.out).mono ?_); rintro e w' ⟨rfl, ⟨nd, rfl⟩⟩; refine ⟨_, rfl, ?_⟩) | ((with_reducible refine gate_callee (f := 98) rfl ?_); refine goesL_ (some 11) rfl rfl Tryz.func98 (by kernel_rfl) rfl #[.string a0_1] rfl (by (try simp only [List.map_toArray, List.map_cons, List.map_nil]); first | done | rfl | (simp only [List.length_drop, List.length_take]; rfl)) ?_; (with_reducible refine (bulletinref01_Printable.calls k a0_1 t215 _ A4.out).mono ?_); rintro e w' ⟨rfl, ⟨nd, rfl⟩⟩; refine ⟨_, rfl, ?_⟩))
          (try (rw [drewN_self w17]; generalize hq_ : World.drewN w17 _ = w17; have n0_ : Aside0 (w17.heap[gb213]? = some (.cells #[.string a0_0, .string a0_1] 78 (0, 0))) := ⟨by rw [← hq_]; exact (by (with_reducible repeat (first | refine blk_drewN ?_ _ | refine blk_drew ?_ | refine blk_alloc ?_ _)); exact BK213.out)⟩; have n1_ : Aside0 (Below w.heap.size w w17) := ⟨by rw [← hq_]; exact (by repeat (first | (with_reducible first | exact HB.out | apply below_alloc | apply pw_below_drewN | apply below_drew1 | refine below_set ?_ GE213.out) | exact HB.out))⟩; clear BK213 HB hq_; have BK213 := n0_; have HB := n1_; clear n0_ n1_))
          have n0_ := Aside0.mk (blk_drew BK213.out)
          have n1_ := Aside0.mk (below_drew1 HB.out)
          clear BK213
          clear HB
          have BK213 := n0_
          have HB := n1_
          clear n0_ n1_
          refine start_ (n := 6) (S := fun w' => w'.cell? ⟨gb213, 0, none⟩ = some (.string a0_0) ∧ w'.cell? ⟨gb213, 1, none⟩ = some (.string a0_1)) (ds := []) #[false, false, false, false, false, false] (by kernel_rfl) rfl rfl ⟨(blk_cell BK213.out 0).trans rfl, (blk_cell BK213.out 1).trans rfl⟩ (fun hHeld => ?_)
          generalize w17.drew = w19 at BK213 HB hHeld ⊢
          refine pure_ (i := 0) (N := some 13) (v := ?_) (a' := ?_) #[true, false, false, false, false, false] rfl rfl (by kernel_rfl) (fun _ _ _ h => h) (Or.inl ⟨by rfl, ?_⟩) ?_ ?_
          rotate_left
          · intro w'
            go_simp
            with_reducible rfl
          rotate_left
          · simp only [Act.put, List.setIfInBounds_toArray, List.set_cons_zero, List.set_cons_succ, i64_w, i32_w]
            rfl
          refine pure_ (i := 3) (N := some 16) (v := ?_) (a' := ?_) #[true, false, false, true, false, false] rfl rfl (by kernel_rfl) (fun _ _ _ h => h) (Or.inl ⟨by rfl, ?_⟩) ?_ ?_
          rotate_left
          · intro w'
            go_simp
            with_reducible rfl
          rotate_left
          · simp only [Act.put, List.setIfInBounds_toArray, List.set_cons_zero, List.set_cons_succ, i64_w, i32_w]
            rfl
          refine take_ (i := 1) (N := some 14) (v := ?_) (a' := ?_) #[true, true, false, true, false, false] rfl rfl (by kernel_rfl) (fun _ _ _ h => h) (Or.inl ⟨by rfl, ?_⟩) hHeld ?_ ?_
          rotate_left
          · rintro w' ⟨s0, s1⟩
            go_simp
            with_reducible rfl
          rotate_left
          · simp only [Act.put, List.setIfInBounds_toArray, List.set_cons_zero, List.set_cons_succ, i64_w, i32_w]
            rfl
          refine take_ (i := 4) (N := some 17) (v := ?_) (a' := ?_) #[true, true, false, true, true, false] rfl rfl (by kernel_rfl) (fun _ _ _ h => h) (Or.inl ⟨by rfl, ?_⟩) hHeld ?_ ?_
          rotate_left
          · rintro w' ⟨s0, s1⟩
            go_simp
            with_reducible rfl
          rotate_left
          · simp only [Act.put, List.setIfInBounds_toArray, List.set_cons_zero, List.set_cons_succ, i64_w, i32_w]
            rfl
          refine one_ (i := 2) (N := some 15) #[true, true, true, true, true, false] rfl rfl (by kernel_rfl) (by decide) (fun K hK => ?_)
          refine goes_ Tryz.func99 (by kernel_rfl) rfl #[.string a0_1] (by rfl) rfl rfl (by (try simp only [List.map_toArray, List.map_cons, List.map_nil]); first | done | rfl | (simp only [List.length_drop, List.length_take]; rfl)) ?_
          with_reducible refine (bulletinref01_Squeeze.calls k a0_1 t216 _ A8.out).mono ?_
          rintro e w20 ⟨rfl, hb⟩
          refine ⟨_, rfl, ?_⟩
          have n0_ := Aside0.mk (blk_below (g := gb213) (o := .cells #[.string a0_0, .string a0_1] 78 (0, 0)) (by (with_reducible repeat (first | refine blk_drewN ?_ _ | refine blk_drew ?_ | refine blk_alloc ?_ _)); exact BK213.out) hb)
          have n1_ := Aside0.mk (below_step (by repeat (first | (with_reducible first | exact HB.out | apply below_alloc | apply pw_below_drewN | apply below_drew1 | refine below_set ?_ GE213.out) | exact HB.out)) hb)
          clear BK213
          clear HB
          have BK213 := n0_
          have HB := n1_
          clear n0_ n1_
          (try clear hb)
          (try clear hb2)
          (try clear hk)
          (try clear hi)
          refine hK.out _ _ ⟨(blk_cell BK213.out 0).trans rfl, (blk_cell BK213.out 1).trans rfl⟩ (fun hHeld => ?_)
          clear hK K
          refine norm_ (a' := ?_) ?_ ?_
          rotate_left
          · show Act.put _ (some 15) _ = _
            simp only [Act.put, List.setIfInBounds_toArray, List.set_cons_zero, List.set_cons_succ, i64_w, i32_w]
            rfl
          refine pure_ (i := 5) (N := some 18) (v := ?_) (a' := ?_) #[true, true, true, true, true, true] rfl rfl (by kernel_rfl) (fun _ _ _ h => h) (Or.inl ⟨by rfl, ?_⟩) ?_ ?_
          rotate_left
          · intro w'
            go_simp
            with_reducible rfl
          rotate_left
          · simp only [Act.put, List.setIfInBounds_toArray, List.set_cons_zero, List.set_cons_succ, i64_w, i32_w]
            rfl
          refine done_ (by kernel_rfl) ?_
          have hcz21_0 : w20.cell? ⟨gb213, 0, none⟩ = some (.string a0_0) := (blk_cell BK213.out 0).trans rfl
          have hcz21_1 : w20.cell? ⟨gb213, 1, none⟩ = some (.string a0_1) := (blk_cell BK213.out 1).trans rfl
          have hfz21_0 := blk_frozen BK213.out 0
          have hfz21_1 := blk_frozen BK213.out 1
          try go_wp2_with (first | ((with_reducible refine gate_callee (f := 100) rfl ?_); refine goesL_ (some 25) rfl rfl Tryz.func100 (by kernel_rfl) rfl #[.string a0_1] rfl (by (try simp only [List.map_toArray, List.map_cons, List.map_nil]); first | done | rfl | (simp only [List.length_drop, List.length_take]; rfl)) ?_; (with_reducible refine (bulletinref01_Words.calls k a0_1 t217 _ A16.out).mono ?_); rintro e w22 ⟨v218, rfl, ho0, hb⟩; refine ⟨_, rfl, ?_⟩; have n0_ := Aside0.mk (Kd.R_lower ho0 (below_size (by repeat (first | (with_reducible first | exact HB.out | apply below_alloc | apply pw_below_drewN | apply below_drew1 | refine below_set ?_ GE213.out) | exact HB.out)))); have n1_ := Aside0.mk (blk_below (g := gb213) (o := .cells #[.string a0_0, .string a0_1] 78 (0, 0)) (by (with_reducible repeat (first | refine blk_drewN ?_ _ | refine blk_drew ?_ | refine blk_alloc ?_ _)); exact BK213.out) hb); have n2_ := Aside0.mk (below_step (by repeat (first | (with_reducible first | exact HB.out | apply below_alloc | apply pw_below_drewN | apply below_drew1 | refine below_set ?_ GE213.out) | exact HB.out)) hb); clear BK213; clear HB; have HO219 := n0_; have BK213 := n1_; have HB := n2_; clear n0_ n1_ n2_; (try clear hb); (try clear hb2); (try clear hk); (try clear hi); (try clear ho0)))
          go_loopg [4] k (fun kq v4 w' => ∃ (x4_1 : Int), v4 = .int .i64 x4_1 ∧ Aside0 (bulletinref09_Check.l0 kq t217 x4_1 = some r) ∧ Aside0 (kq ≤ k) ∧ Aside0 (Kd.R Kd.string 9 w' w.heap.size (fun _ => True) v218 t217) ∧ Aside0 (w'.heap[gb213]? = some (.cells #[.string a0_0, .string a0_1] 78 (0, 0))) ∧ Aside0 (Below w.heap.size w w'))
          case atStart => exact ⟨(0), (by first | rfl | (simp; done) | (simp [*]; done)), H', ⟨Nat.le_refl _⟩, ⟨by (with_reducible repeat (first | apply Kd.R_alloc | apply Kd.R_drewN | apply Kd.R_drew)); exact HO219.out⟩, ⟨by (with_reducible repeat (first | refine blk_drewN ?_ _ | refine blk_drew ?_ | refine blk_alloc ?_ _)); exact BK213.out⟩, ⟨by repeat (first | (with_reducible first | exact HB.out | apply below_alloc | apply pw_below_drewN | apply below_drew1 | refine below_set ?_ GE213.out) | exact HB.out)⟩⟩
          case round =>
            clear H'
            try clear c1
            try clear p2
            try clear c3
            try clear c5
            try clear c5b0
            try clear c6
            try clear c7
            try clear c9
            try clear c9b0
            try clear c9b1
            try clear c10
            try clear c10b0
            try clear c10b1
            try clear hcz12_0
            try clear hcz12_1
            try clear hcz15_0
            try clear hcz15_1
            try clear hcz18_0
            try clear hcz18_1
            try clear hcz21_0
            try clear hcz21_1
            try clear hcz7_0
            try clear hcz7_1
            try clear hfz12_0
            try clear hfz12_1
            try clear hfz15_0
            try clear hfz15_1
            try clear hfz18_0
            try clear hfz18_1
            try clear hfz21_0
            try clear hfz21_1
            try clear hfz7_0
            try clear hfz7_1
            obtain ⟨x4_1, rfl, HA, HK1, HO_3, BK213, HB⟩ := hrel
            cases gk with
            | zero => exact absurd HA.out (by simp [bulletinref09_Check.l0])
            | succ k1 =>
              have H := HA.out
              clear HA
              simp only [bulletinref09_Check.l0] at H
              by_cases c23 : x4_1 < (t217.length : Int)
              · rw [if_pos c23] at H
                have c23b0 : decide (x4_1 < (t217.length : Int)) = true := decide_eq_true c23
                clear c23
                by_cases c24 : 0 ≤ x4_1
                · rw [if_pos c24] at H
                  have c24b0 : decide (0 ≤ x4_1) = true := decide_eq_true c24
                  clear c24
                  by_cases c25 : ((rdOf ByteArray.empty t217 x4_1).size : Int) > 900
                  · rw [if_pos c25] at H
                    have c25b0 : decide (900 < ((rdOf ByteArray.empty t217 x4_1).size : Int)) = true := decide_eq_true c25
                    have c25b1 : decide (900 < (rdOf ByteArray.empty t217 x4_1).size) = true := decide_eq_true (by omega)
                    clear c25
                    obtain rfl := Option.some.inj H
                    obtain ⟨Ao26, co26, eo26⟩ := Kd.R_slice HO_3.out
                    subst eo26
                    have p220 : 0 ≤ (x4_1 : Int) := of_decide_eq_true (by first | (with_reducible assumption) | assumption)
                    have q220 : x4_1 < (t217.length : Int) := of_decide_eq_true (by first | (with_reducible assumption) | assumption)
                    obtain ⟨ad220, e220, hx220_0⟩ := Kd.at_string (Kd.R_reads' HO_3.out).2.2 x4_1 p220 q220
                    cases e220
                    replace p220 := eq_true p220
                    replace q220 := eq_true q220
                    go_wp2
                    go_ret
                    exact ⟨by first | rfl | (simp [errW_none, errW_some] <;> rfl) | (simp [*, errW_none, errW_some] <;> rfl), by repeat (first | (with_reducible first | exact HB.out | apply below_alloc | apply pw_below_drewN | apply below_drew1 | refine below_set ?_ GE213.out) | exact HB.out)⟩
                  · rw [if_neg c25] at H
                    have c25b0 : decide (900 < ((rdOf ByteArray.empty t217 x4_1).size : Int)) = false := decide_eq_false c25
                    have c25b1 : decide (900 < (rdOf ByteArray.empty t217 x4_1).size) = false := decide_eq_false (by omega)
                    clear c25
                    have H' := Aside0.mk H
                    clear H
                    obtain ⟨Ao27, co27, eo27⟩ := Kd.R_slice HO_3.out
                    subst eo27
                    have p220 : 0 ≤ (x4_1 : Int) := of_decide_eq_true (by first | (with_reducible assumption) | assumption)
                    have q220 : x4_1 < (t217.length : Int) := of_decide_eq_true (by first | (with_reducible assumption) | assumption)
                    obtain ⟨ad220, e220, hx220_0⟩ := Kd.at_string (Kd.R_reads' HO_3.out).2.2 x4_1 p220 q220
                    cases e220
                    replace p220 := eq_true p220
                    replace q220 := eq_true q220
                    go_wp2
                    go_roundg k1
                    case measure => have := HK1.out; omega
                    case rel => exact ⟨(wrap64 (x4_1 + 1)), (by first | rfl | (simp; done) | (simp [*]; done)), H', ⟨by have := HK1.out; omega⟩, ⟨by (with_reducible repeat (first | apply Kd.R_alloc | apply Kd.R_drewN | apply Kd.R_drew)); exact HO_3.out⟩, ⟨by (with_reducible repeat (first | refine blk_drewN ?_ _ | refine blk_drew ?_ | refine blk_alloc ?_ _)); exact BK213.out⟩, ⟨by repeat (first | (with_reducible first | exact HB.out | apply below_alloc | apply pw_below_drewN | apply below_drew1 | refine below_set ?_ GE213.out) | exact HB.out)⟩⟩
                · rw [if_neg c24] at H
                  exact absurd H (by simp)
              · rw [if_neg c23] at H
                have c23b0 : decide (x4_1 < (t217.length : Int)) = false := decide_eq_false c23
                clear c23
                obtain rfl := Option.some.inj H
                obtain ⟨Ao28, co28, eo28⟩ := Kd.R_slice HO_3.out
                subst eo28
                go_wp2
                go_ret
                exact ⟨by first | rfl | (simp [errW_none, errW_some] <;> rfl) | (simp [*, errW_none, errW_some] <;> rfl), by repeat (first | (with_reducible first | exact HB.out | apply below_alloc | apply pw_below_drewN | apply below_drew1 | refine below_set ?_ GE213.out) | exact HB.out)⟩
      · rw [if_neg c9] at H
        have c9b0 : (t216.toList == a0_1.toList) = false := beq_eq_false_iff_ne.mpr c9
        have c9b1 : (t216.toList != a0_1.toList) = true := bne_iff_ne.mpr c9
        obtain rfl := Option.some.inj H
        go_enter Tryz.func72, Tryz.ntmps72
        try go_wp2_with (first | ((with_reducible refine gate_dst (N := 1) rfl ?_); refine box_event ?hg (N := 1) ?hd (cs := #[.string a0_0, .string a0_1]) (t := 78) ?hr ?_; (case hd => rfl); (case hg => rfl); (case hr => first | (go_simp; done) | (go_simp; rfl)); intro gb213 hg w29 hbox hb; have n0_ := Aside0.mk (below_step (by repeat (first | (with_reducible first | exact HB.out | apply below_alloc | apply pw_below_drewN | apply below_drew1) | exact HB.out)) hb); have n1_ := Aside0.mk (hbox); have n2_ := Aside0.mk ((by rw [hg]; exact (below_size (by repeat (first | (with_reducible first | exact HB.out | apply below_alloc | apply pw_below_drewN | apply below_drew1) | exact HB.out))) : w.heap.size ≤ gb213)); have n3_ := Aside0.mk ((by rw [hg]; exact (below_size (by repeat (first | (with_reducible first | exact HB.out | apply below_alloc | apply pw_below_drewN | apply below_drew1) | exact HB.out))) : w.heap.size ≤ gb213)); clear HB; have HB := n0_; have BK213 := n1_; have GW213 := n2_; have GE213 := n3_; clear n0_ n1_ n2_ n3_; clear hb hbox hg; have hcz30_0 : w29.cell? ⟨gb213, 0, none⟩ = some (.string a0_0) := (blk_cell BK213.out 0).trans rfl; have hcz30_1 : w29.cell? ⟨gb213, 1, none⟩ = some (.string a0_1) := (blk_cell BK213.out 1).trans rfl; have hfz30_0 := blk_frozen BK213.out 0; have hfz30_1 := blk_frozen BK213.out 1) | ((with_reducible refine gate_callee (f := 62) rfl ?_); refine goesL_ (some 7) rfl rfl Tryz.func62 (by kernel_rfl) rfl #[.string a0_0] rfl (by (try simp only [List.map_toArray, List.map_cons, List.map_nil]); first | done | rfl | (simp only [List.length_drop, List.length_take]; rfl)) ?_; (with_reducible refine (bulletinref09_ValidName.calls k a0_0 true _ A2.out).mono ?_); rintro e w' ⟨rfl, ⟨nd, rfl⟩⟩; refine ⟨_, rfl, ?_⟩) | ((with_reducible refine gate_callee (f := 98) rfl ?_); refine goesL_ (some 11) rfl rfl Tryz.func98 (by kernel_rfl) rfl #[.string a0_1] rfl (by (try simp only [List.map_toArray, List.map_cons, List.map_nil]); first | done | rfl | (simp only [List.length_drop, List.length_take]; rfl)) ?_; (with_reducible refine (bulletinref01_Printable.calls k a0_1 t215 _ A4.out).mono ?_); rintro e w' ⟨rfl, ⟨nd, rfl⟩⟩; refine ⟨_, rfl, ?_⟩))
        (try (rw [drewN_self w29]; generalize hq_ : World.drewN w29 _ = w29; have n0_ : Aside0 (w29.heap[gb213]? = some (.cells #[.string a0_0, .string a0_1] 78 (0, 0))) := ⟨by rw [← hq_]; exact (by (with_reducible repeat (first | refine blk_drewN ?_ _ | refine blk_drew ?_ | refine blk_alloc ?_ _)); exact BK213.out)⟩; have n1_ : Aside0 (Below w.heap.size w w29) := ⟨by rw [← hq_]; exact (by repeat (first | (with_reducible first | exact HB.out | apply below_alloc | apply pw_below_drewN | apply below_drew1 | refine below_set ?_ GE213.out) | exact HB.out))⟩; clear BK213 HB hq_; have BK213 := n0_; have HB := n1_; clear n0_ n1_))
        have n0_ := Aside0.mk (blk_drew BK213.out)
        have n1_ := Aside0.mk (below_drew1 HB.out)
        clear BK213
        clear HB
        have BK213 := n0_
        have HB := n1_
        clear n0_ n1_
        refine start_ (n := 6) (S := fun w' => w'.cell? ⟨gb213, 0, none⟩ = some (.string a0_0) ∧ w'.cell? ⟨gb213, 1, none⟩ = some (.string a0_1)) (ds := []) #[false, false, false, false, false, false] (by kernel_rfl) rfl rfl ⟨(blk_cell BK213.out 0).trans rfl, (blk_cell BK213.out 1).trans rfl⟩ (fun hHeld => ?_)
        generalize w29.drew = w31 at BK213 HB hHeld ⊢
        refine pure_ (i := 0) (N := some 13) (v := ?_) (a' := ?_) #[true, false, false, false, false, false] rfl rfl (by kernel_rfl) (fun _ _ _ h => h) (Or.inl ⟨by rfl, ?_⟩) ?_ ?_
        rotate_left
        · intro w'
          go_simp
          with_reducible rfl
        rotate_left
        · simp only [Act.put, List.setIfInBounds_toArray, List.set_cons_zero, List.set_cons_succ, i64_w, i32_w]
          rfl
        refine pure_ (i := 3) (N := some 16) (v := ?_) (a' := ?_) #[true, false, false, true, false, false] rfl rfl (by kernel_rfl) (fun _ _ _ h => h) (Or.inl ⟨by rfl, ?_⟩) ?_ ?_
        rotate_left
        · intro w'
          go_simp
          with_reducible rfl
        rotate_left
        · simp only [Act.put, List.setIfInBounds_toArray, List.set_cons_zero, List.set_cons_succ, i64_w, i32_w]
          rfl
        refine take_ (i := 1) (N := some 14) (v := ?_) (a' := ?_) #[true, true, false, true, false, false] rfl rfl (by kernel_rfl) (fun _ _ _ h => h) (Or.inl ⟨by rfl, ?_⟩) hHeld ?_ ?_
        rotate_left
        · rintro w' ⟨s0, s1⟩
          go_simp
          with_reducible rfl
        rotate_left
        · simp only [Act.put, List.setIfInBounds_toArray, List.set_cons_zero, List.set_cons_succ, i64_w, i32_w]
          rfl
        refine take_ (i := 4) (N := some 17) (v := ?_) (a' := ?_) #[true, true, false, true, true, false] rfl rfl (by kernel_rfl) (fun _ _ _ h => h) (Or.inl ⟨by rfl, ?_⟩) hHeld ?_ ?_
        rotate_left
        · rintro w' ⟨s0, s1⟩
          go_simp
          with_reducible rfl
        rotate_left
        · simp only [Act.put, List.setIfInBounds_toArray, List.set_cons_zero, List.set_cons_succ, i64_w, i32_w]
          rfl
        refine one_ (i := 2) (N := some 15) #[true, true, true, true, true, false] rfl rfl (by kernel_rfl) (by decide) (fun K hK => ?_)
        refine goes_ Tryz.func99 (by kernel_rfl) rfl #[.string a0_1] (by rfl) rfl rfl (by (try simp only [List.map_toArray, List.map_cons, List.map_nil]); first | done | rfl | (simp only [List.length_drop, List.length_take]; rfl)) ?_
        with_reducible refine (bulletinref01_Squeeze.calls k a0_1 t216 _ A8.out).mono ?_
        rintro e w32 ⟨rfl, hb⟩
        refine ⟨_, rfl, ?_⟩
        have n0_ := Aside0.mk (blk_below (g := gb213) (o := .cells #[.string a0_0, .string a0_1] 78 (0, 0)) (by (with_reducible repeat (first | refine blk_drewN ?_ _ | refine blk_drew ?_ | refine blk_alloc ?_ _)); exact BK213.out) hb)
        have n1_ := Aside0.mk (below_step (by repeat (first | (with_reducible first | exact HB.out | apply below_alloc | apply pw_below_drewN | apply below_drew1 | refine below_set ?_ GE213.out) | exact HB.out)) hb)
        clear BK213
        clear HB
        have BK213 := n0_
        have HB := n1_
        clear n0_ n1_
        (try clear hb)
        (try clear hb2)
        (try clear hk)
        (try clear hi)
        refine hK.out _ _ ⟨(blk_cell BK213.out 0).trans rfl, (blk_cell BK213.out 1).trans rfl⟩ (fun hHeld => ?_)
        clear hK K
        refine norm_ (a' := ?_) ?_ ?_
        rotate_left
        · show Act.put _ (some 15) _ = _
          simp only [Act.put, List.setIfInBounds_toArray, List.set_cons_zero, List.set_cons_succ, i64_w, i32_w]
          rfl
        refine pure_ (i := 5) (N := some 18) (v := ?_) (a' := ?_) #[true, true, true, true, true, true] rfl rfl (by kernel_rfl) (fun _ _ _ h => h) (Or.inl ⟨by rfl, ?_⟩) ?_ ?_
        rotate_left
        · intro w'
          go_simp
          with_reducible rfl
        rotate_left
        · simp only [Act.put, List.setIfInBounds_toArray, List.set_cons_zero, List.set_cons_succ, i64_w, i32_w]
          rfl
        refine done_ (by kernel_rfl) ?_
        try go_wp2
        go_ret
        exact ⟨by first | rfl | (simp [errW_none, errW_some] <;> rfl) | (simp [*, errW_none, errW_some] <;> rfl), by repeat (first | (with_reducible first | exact HB.out | apply below_alloc | apply pw_below_drewN | apply below_drew1 | refine below_set ?_ GE213.out) | exact HB.out)⟩
  · replace c3 := Bool.eq_false_iff.mpr c3
    subst c3
    have H1 : (some 12) = some r := by rw [if_neg (show ¬ (false = true) by decide)] at H; exact H
    clear H
    have H := H1
    clear H1
    obtain rfl := Option.some.inj H
    go_enter Tryz.func72, Tryz.ntmps72
    go_wp2_with (first | ((with_reducible refine gate_dst (N := 1) rfl ?_); refine box_event ?hg (N := 1) ?hd (cs := #[.string a0_0, .string a0_1]) (t := 78) ?hr ?_; (case hd => rfl); (case hg => rfl); (case hr => first | (go_simp; done) | (go_simp; rfl)); intro gb213 hg w33 hbox hb; have n0_ := Aside0.mk (below_step (by repeat (first | (with_reducible first | exact HB.out | apply below_alloc | apply pw_below_drewN | apply below_drew1) | exact HB.out)) hb); have n1_ := Aside0.mk (hbox); have n2_ := Aside0.mk ((by rw [hg]; exact (below_size (by repeat (first | (with_reducible first | exact HB.out | apply below_alloc | apply pw_below_drewN | apply below_drew1) | exact HB.out))) : w.heap.size ≤ gb213)); have n3_ := Aside0.mk ((by rw [hg]; exact (below_size (by repeat (first | (with_reducible first | exact HB.out | apply below_alloc | apply pw_below_drewN | apply below_drew1) | exact HB.out))) : w.heap.size ≤ gb213)); clear HB; have HB := n0_; have BK213 := n1_; have GW213 := n2_; have GE213 := n3_; clear n0_ n1_ n2_ n3_; clear hb hbox hg; have hcz34_0 : w33.cell? ⟨gb213, 0, none⟩ = some (.string a0_0) := (blk_cell BK213.out 0).trans rfl; have hcz34_1 : w33.cell? ⟨gb213, 1, none⟩ = some (.string a0_1) := (blk_cell BK213.out 1).trans rfl; have hfz34_0 := blk_frozen BK213.out 0; have hfz34_1 := blk_frozen BK213.out 1) | ((with_reducible refine gate_callee (f := 62) rfl ?_); refine goesL_ (some 7) rfl rfl Tryz.func62 (by kernel_rfl) rfl #[.string a0_0] rfl (by (try simp only [List.map_toArray, List.map_cons, List.map_nil]); first | done | rfl | (simp only [List.length_drop, List.length_take]; rfl)) ?_; (with_reducible refine (bulletinref09_ValidName.calls k a0_0 false _ A2.out).mono ?_); rintro e w' ⟨rfl, ⟨nd, rfl⟩⟩; refine ⟨_, rfl, ?_⟩))
    go_ret
    exact ⟨by first | rfl | (simp [errW_none, errW_some] <;> rfl) | (simp [*, errW_none, errW_some] <;> rfl), by repeat (first | (with_reducible first | exact HB.out | apply below_alloc | apply pw_below_drewN | apply below_drew1 | refine below_set ?_ GE213.out) | exact HB.out)⟩

/-! ### bulletinref09_Fold: function 73 -/
def bulletinref09_Fold.l0 : Nat → ByteArray → ByteArray → List ByteArray → Int → Option (ByteArray)
  | 0, _, _, _, _ => none
  | k + 1, x3, x4, x5, x6 => if x6 < (x5.length : Int) then (if x6 = 0 then (if x4.size + 1 ≤ 9223372036854775807 then (if 0 ≤ x6 then (if (x4 ++ (⟨#[32]⟩ : ByteArray)).size + (rdOf ByteArray.empty x5 x6).size ≤ 9223372036854775807 then (bulletinref09_Fold.l0 k x3 ((x4 ++ (⟨#[32]⟩ : ByteArray)) ++ (rdOf ByteArray.empty x5 x6)) x5 (wrap64 (x6 + 1))) else (none)) else (none)) else (none)) else (if 0 ≤ x6 then (if (wrap64 ((wrap64 ((x4.size : Int) + 1)) + ((rdOf ByteArray.empty x5 x6).size : Int))) ≤ 78 then (if x4.size + 1 ≤ 9223372036854775807 then (if (x4 ++ (⟨#[32]⟩ : ByteArray)).size + (rdOf ByteArray.empty x5 x6).size ≤ 9223372036854775807 then (bulletinref09_Fold.l0 k x3 ((x4 ++ (⟨#[32]⟩ : ByteArray)) ++ (rdOf ByteArray.empty x5 x6)) x5 (wrap64 (x6 + 1))) else (none)) else (none)) else (if x3.size + x4.size ≤ 9223372036854775807 then (if (x3 ++ x4).size + 1 ≤ 9223372036854775807 then (if 1 + (rdOf ByteArray.empty x5 x6).size ≤ 9223372036854775807 then (bulletinref09_Fold.l0 k ((x3 ++ x4) ++ (⟨#[10]⟩ : ByteArray)) ((⟨#[32]⟩ : ByteArray) ++ (rdOf ByteArray.empty x5 x6)) x5 (wrap64 (x6 + 1))) else (none)) else (none)) else (none))) else (none))) else (if x3.size + x4.size ≤ 9223372036854775807 then (if (x3 ++ x4).size + 1 ≤ 9223372036854775807 then (some ((x3 ++ x4) ++ (⟨#[10]⟩ : ByteArray))) else (none)) else (none))
def bulletinref09_Fold.f (k : Nat) (a0_0 : ByteArray) (a0_1 : ByteArray) : Option (ByteArray) := if a0_0.size + 1 ≤ 9223372036854775807 then ((bulletinref01_Words.f k a0_1).bind fun t222 => (bulletinref09_Fold.l0 k (⟨#[]⟩ : ByteArray) (a0_0 ++ (⟨#[58]⟩ : ByteArray)) t222 0)) else (none)
set_option maxHeartbeats 8000000 in
set_option maxRecDepth 100000 in
theorem bulletinref09_Fold.calls (k : Nat) (a0_0 : ByteArray) (a0_1 : ByteArray) (r : ByteArray) (w : World) (h : bulletinref09_Fold.f k a0_0 a0_1 = some r) :
    Calls Tryz.prog 73 #[.agg #[.string a0_0, .string a0_1]] w fun e w' => e = .returned (.string r) ∧ Below w.heap.size w w' := by
  have hu78 := Tryz.underlying78
  have HB := Aside0.mk (Below.refl w.heap.size w)
  have H : (if a0_0.size + 1 ≤ 9223372036854775807 then ((bulletinref01_Words.f k a0_1).bind fun t222 => (bulletinref09_Fold.l0 k (⟨#[]⟩ : ByteArray) (a0_0 ++ (⟨#[58]⟩ : ByteArray)) t222 0)) else (none)) = some r := h
  clear h
  by_cases c2 : a0_0.size + 1 ≤ 9223372036854775807
  · rw [if_pos c2] at H
    have c2b0 := eq_true c2
    have c2b1 : decide (a0_0.size + 1 ≤ 9223372036854775807) = true := decide_eq_true c2
    try have c2b2 : (9223372036854775807 < a0_0.size + 1) = False := eq_false (Nat.not_lt.2 c2)
    replace H := Option.bind_eq_some_iff.mp H
    obtain ⟨t222, A30, H⟩ := H
    replace H : (bulletinref09_Fold.l0 k (⟨#[]⟩ : ByteArray) (a0_0 ++ (⟨#[58]⟩ : ByteArray)) t222 0) = some r := H
    have A3 := Aside0.mk A30
    clear A30
    have H' := Aside0.mk H
    clear H
    go_enter Tryz.func73, Tryz.ntmps73
    go_wp2_with (first | ((with_reducible refine gate_dst (N := 1) rfl ?_); (try (refine gate_guard (by rfl) ?_; dsimp only)); refine box_event ?hg (N := 1) ?hd (cs := #[.string a0_0, .string a0_1]) (t := 78) ?hr ?_; (case hd => rfl); (case hg => rfl); (case hr => first | (go_simp; done) | (go_simp; rfl)); intro gb221 hg w4 hbox hb; have n0_ := Aside0.mk (below_step (by repeat (first | (with_reducible first | exact HB.out | apply below_alloc | apply pw_below_drewN | apply below_drew1) | exact HB.out)) hb); have n1_ := Aside0.mk (hbox); have n2_ := Aside0.mk ((by rw [hg]; exact (below_size (by repeat (first | (with_reducible first | exact HB.out | apply below_alloc | apply pw_below_drewN | apply below_drew1) | exact HB.out))) : w.heap.size ≤ gb221)); have n3_ := Aside0.mk ((by rw [hg]; exact (below_size (by repeat (first | (with_reducible first | exact HB.out | apply below_alloc | apply pw_below_drewN | apply below_drew1) | exact HB.out))) : w.heap.size ≤ gb221)); clear HB; have HB := n0_; have BK221 := n1_; have GW221 := n2_; have GE221 := n3_; clear n0_ n1_ n2_ n3_; clear hb hbox hg; have hcz5_0 : w4.cell? ⟨gb221, 0, none⟩ = some (.string a0_0) := (blk_cell BK221.out 0).trans rfl; have hcz5_1 : w4.cell? ⟨gb221, 1, none⟩ = some (.string a0_1) := (blk_cell BK221.out 1).trans rfl; have hfz5_0 := blk_frozen BK221.out 0; have hfz5_1 := blk_frozen BK221.out 1) | ((with_reducible refine gate_callee (f := 100) rfl ?_); refine goesL_ (some 12) rfl rfl Tryz.func100 (by kernel_rfl) rfl #[.string a0_1] rfl (by (try simp only [List.map_toArray, List.map_cons, List.map_nil]); first | done | rfl | (simp only [List.length_drop, List.length_take]; rfl)) ?_; (with_reducible refine (bulletinref01_Words.calls k a0_1 t222 _ A3.out).mono ?_); rintro e w6 ⟨v223, rfl, ho0, hb⟩; refine ⟨_, rfl, ?_⟩; have n0_ := Aside0.mk (Kd.R_lower ho0 (below_size (by repeat (first | (with_reducible first | exact HB.out | apply below_alloc | apply pw_below_drewN | apply below_drew1 | refine below_set ?_ GE221.out) | exact HB.out)))); have n1_ := Aside0.mk (blk_below (g := gb221) (o := .cells #[.string a0_0, .string a0_1] 78 (0, 0)) (by (with_reducible repeat (first | refine blk_drewN ?_ _ | refine blk_drew ?_ | refine blk_alloc ?_ _)); exact BK221.out) hb); have n2_ := Aside0.mk (below_step (by repeat (first | (with_reducible first | exact HB.out | apply below_alloc | apply pw_below_drewN | apply below_drew1 | refine below_set ?_ GE221.out) | exact HB.out)) hb); clear BK221; clear HB; have HO224 := n0_; have BK221 := n1_; have HB := n2_; clear n0_ n1_ n2_; (try clear hb); (try clear hb2); (try clear hk); (try clear hi); (try clear ho0)))
    go_loopg [3, 4, 6] k (fun kq v3 v4 v6 w' => ∃ (x3_1 : ByteArray) (x4_1 : ByteArray) (x6_1 : Int), v3 = .string x3_1 ∧ v4 = .string x4_1 ∧ v6 = .int .i64 x6_1 ∧ Aside0 (bulletinref09_Fold.l0 kq x3_1 x4_1 t222 x6_1 = some r) ∧ Aside0 (kq ≤ k) ∧ Aside0 (Kd.R Kd.string 9 w' w.heap.size (fun _ => True) v223 t222) ∧ Aside0 (w'.heap[gb221]? = some (.cells #[.string a0_0, .string a0_1] 78 (0, 0))) ∧ Aside0 (Below w.heap.size w w'))
    case atStart => exact ⟨((⟨#[]⟩ : ByteArray)), (a0_0 ++ (⟨#[58]⟩ : ByteArray)), (0), (by first | rfl | (simp; done) | (simp [*]; done)), (by first | rfl | (simp; done) | (simp [*]; done)), (by first | rfl | (simp; done) | (simp [*]; done)), H', ⟨Nat.le_refl _⟩, ⟨by (with_reducible repeat (first | apply Kd.R_alloc | apply Kd.R_drewN | apply Kd.R_drew)); exact HO224.out⟩, ⟨by (with_reducible repeat (first | refine blk_drewN ?_ _ | refine blk_drew ?_ | refine blk_alloc ?_ _)); exact BK221.out⟩, ⟨by repeat (first | (with_reducible first | exact HB.out | apply below_alloc | apply pw_below_drewN | apply below_drew1 | refine below_set ?_ GE221.out) | exact HB.out)⟩⟩
    case round =>
      clear H'
      try clear c1
      try clear c2
      try clear c2b0
      try clear c2b1
      try clear c2b2
      try clear p2
      try clear hcz5_0
      try clear hcz5_1
      try clear hfz5_0
      try clear hfz5_1
      obtain ⟨x3_1, x4_1, x6_1, rfl, rfl, rfl, HA, HK1, HO_5, BK221, HB⟩ := hrel
      cases gk with
      | zero => exact absurd HA.out (by simp [bulletinref09_Fold.l0])
      | succ k1 =>
        have H := HA.out
        clear HA
        simp only [bulletinref09_Fold.l0] at H
        by_cases c7 : x6_1 < (t222.length : Int)
        · rw [if_pos c7] at H
          have c7b0 : decide (x6_1 < (t222.length : Int)) = true := decide_eq_true c7
          clear c7
          by_cases c8 : x6_1 = 0
          · rw [if_pos c8] at H
            have c8b0 : (x6_1 == 0) = true := beq_iff_eq.mpr c8
            have c8b1 : (x6_1 != 0) = false := bne_eq_false_iff_eq.mpr c8
            clear c8
            by_cases c9 : x4_1.size + 1 ≤ 9223372036854775807
            · rw [if_pos c9] at H
              have c9b0 := eq_true c9
              have c9b1 : decide (x4_1.size + 1 ≤ 9223372036854775807) = true := decide_eq_true c9
              try have c9b2 : (9223372036854775807 < x4_1.size + 1) = False := eq_false (Nat.not_lt.2 c9)
              by_cases c10 : 0 ≤ x6_1
              · rw [if_pos c10] at H
                have c10b0 : decide (0 ≤ x6_1) = true := decide_eq_true c10
                clear c10
                by_cases c11 : (x4_1 ++ (⟨#[32]⟩ : ByteArray)).size + (rdOf ByteArray.empty t222 x6_1).size ≤ 9223372036854775807
                · rw [if_pos c11] at H
                  have c11b0 := eq_true c11
                  have c11b1 : decide ((x4_1 ++ (⟨#[32]⟩ : ByteArray)).size + (rdOf ByteArray.empty t222 x6_1).size ≤ 9223372036854775807) = true := decide_eq_true c11
                  try have c11b2 : (9223372036854775807 < (x4_1 ++ (⟨#[32]⟩ : ByteArray)).size + (rdOf ByteArray.empty t222 x6_1).size) = False := eq_false (Nat.not_lt.2 c11)
                  have H' := Aside0.mk H
                  clear H
                  obtain ⟨Ao12, co12, eo12⟩ := Kd.R_slice HO_5.out
                  subst eo12
                  have p225 : 0 ≤ (x6_1 : Int) := of_decide_eq_true (by first | (with_reducible assumption) | assumption)
                  have q225 : x6_1 < (t222.length : Int) := of_decide_eq_true (by first | (with_reducible assumption) | assumption)
                  obtain ⟨ad225, e225, hx225_0⟩ := Kd.at_string (Kd.R_reads' HO_5.out).2.2 x6_1 p225 q225
                  cases e225
                  replace p225 := eq_true p225
                  replace q225 := eq_true q225
                  go_wp2
                  go_roundg k1
                  case measure => have := HK1.out; omega
                  case rel => exact ⟨(x3_1), ((x4_1 ++ (⟨#[32]⟩ : ByteArray)) ++ (rdOf ByteArray.empty t222 x6_1)), (wrap64 (x6_1 + 1)), (by first | rfl | (simp; done) | (simp [*]; done)), (by first | rfl | (simp; done) | (simp [*]; done)), (by first | rfl | (simp; done) | (simp [*]; done)), H', ⟨by have := HK1.out; omega⟩, ⟨by (with_reducible repeat (first | apply Kd.R_alloc | apply Kd.R_drewN | apply Kd.R_drew)); exact HO_5.out⟩, ⟨by (with_reducible repeat (first | refine blk_drewN ?_ _ | refine blk_drew ?_ | refine blk_alloc ?_ _)); exact BK221.out⟩, ⟨by repeat (first | (with_reducible first | exact HB.out | apply below_alloc | apply pw_below_drewN | apply below_drew1 | refine below_set ?_ GE221.out) | exact HB.out)⟩⟩
                · rw [if_neg c11] at H
                  exact absurd H (by simp)
              · rw [if_neg c10] at H
                exact absurd H (by simp)
            · rw [if_neg c9] at H
              exact absurd H (by simp)
          · rw [if_neg c8] at H
            have c8b0 : (x6_1 == 0) = false := beq_eq_false_iff_ne.mpr c8
            have c8b1 : (x6_1 != 0) = true := bne_iff_ne.mpr c8
            by_cases c13 : 0 ≤ x6_1
            · rw [if_pos c13] at H
              have c13b0 : decide (0 ≤ x6_1) = true := decide_eq_true c13
              clear c13
              by_cases c14 : (wrap64 ((wrap64 ((x4_1.size : Int) + 1)) + ((rdOf ByteArray.empty t222 x6_1).size : Int))) ≤ 78
              · rw [if_pos c14] at H
                have c14b0 : decide ((wrap64 ((wrap64 ((x4_1.size : Int) + 1)) + ((rdOf ByteArray.empty t222 x6_1).size : Int))) ≤ 78) = true := decide_eq_true c14
                clear c14
                by_cases c15 : x4_1.size + 1 ≤ 9223372036854775807
                · rw [if_pos c15] at H
                  have hz_true : wrap64 ((x4_1.size : Int) + 1) = (x4_1.size : Int) + 1 := by unfold wrap64; have hz1_ := c15; have hz2_ := ByteArray.size_append (a := x3_1) (b := x4_1); omega
                  have c14w_ : decide (wrap64 ((x4_1.size : Int) + 1 + ((rdOf ByteArray.empty t222 x6_1).size : Int)) ≤ 78) = true := by rw [hz_true] at c14b0; exact c14b0
                  clear hz_true
                  have c15b0 := eq_true c15
                  have c15b1 : decide (x4_1.size + 1 ≤ 9223372036854775807) = true := decide_eq_true c15
                  try have c15b2 : (9223372036854775807 < x4_1.size + 1) = False := eq_false (Nat.not_lt.2 c15)
                  by_cases c16 : (x4_1 ++ (⟨#[32]⟩ : ByteArray)).size + (rdOf ByteArray.empty t222 x6_1).size ≤ 9223372036854775807
                  · rw [if_pos c16] at H
                    have c16b0 := eq_true c16
                    have c16b1 : decide ((x4_1 ++ (⟨#[32]⟩ : ByteArray)).size + (rdOf ByteArray.empty t222 x6_1).size ≤ 9223372036854775807) = true := decide_eq_true c16
                    try have c16b2 : (9223372036854775807 < (x4_1 ++ (⟨#[32]⟩ : ByteArray)).size + (rdOf ByteArray.empty t222 x6_1).size) = False := eq_false (Nat.not_lt.2 c16)
                    have H' := Aside0.mk H
                    clear H
                    obtain ⟨Ao17, co17, eo17⟩ := Kd.R_slice HO_5.out
                    subst eo17
                    have p226 : 0 ≤ (x6_1 : Int) := of_decide_eq_true (by first | (with_reducible assumption) | assumption)
                    have q226 : x6_1 < (t222.length : Int) := of_decide_eq_true (by first | (with_reducible assumption) | assumption)
                    obtain ⟨ad226, e226, hx226_0⟩ := Kd.at_string (Kd.R_reads' HO_5.out).2.2 x6_1 p226 q226
                    cases e226
                    replace p226 := eq_true p226
                    replace q226 := eq_true q226
                    have p227 : 0 ≤ (x6_1 : Int) := of_decide_eq_true (by first | (with_reducible assumption) | assumption)
                    have q227 : x6_1 < (t222.length : Int) := of_decide_eq_true (by first | (with_reducible assumption) | assumption)
                    obtain ⟨ad227, e227, hx227_0⟩ := Kd.at_string (Kd.R_reads' HO_5.out).2.2 x6_1 p227 q227
                    obtain rfl : ad226 = ad227 := (by injection e227)
                    replace p227 := eq_true p227
                    replace q227 := eq_true q227
                    go_wp2
                    go_roundg k1
                    case measure => have := HK1.out; omega
                    case rel => exact ⟨(x3_1), ((x4_1 ++ (⟨#[32]⟩ : ByteArray)) ++ (rdOf ByteArray.empty t222 x6_1)), (wrap64 (x6_1 + 1)), (by first | rfl | (simp; done) | (simp [*]; done)), (by first | rfl | (simp; done) | (simp [*]; done)), (by first | rfl | (simp; done) | (simp [*]; done)), H', ⟨by have := HK1.out; omega⟩, ⟨by (with_reducible repeat (first | apply Kd.R_alloc | apply Kd.R_drewN | apply Kd.R_drew)); exact HO_5.out⟩, ⟨by (with_reducible repeat (first | refine blk_drewN ?_ _ | refine blk_drew ?_ | refine blk_alloc ?_ _)); exact BK221.out⟩, ⟨by repeat (first | (with_reducible first | exact HB.out | apply below_alloc | apply pw_below_drewN | apply below_drew1 | refine below_set ?_ GE221.out) | exact HB.out)⟩⟩
                  · rw [if_neg c16] at H
                    exact absurd H (by simp)
                · rw [if_neg c15] at H
                  exact absurd H (by simp)
              · rw [if_neg c14] at H
                have c14b0 : decide ((wrap64 ((wrap64 ((x4_1.size : Int) + 1)) + ((rdOf ByteArray.empty t222 x6_1).size : Int))) ≤ 78) = false := decide_eq_false c14
                clear c14
                by_cases c18 : x3_1.size + x4_1.size ≤ 9223372036854775807
                · rw [if_pos c18] at H
                  have c18b0 := eq_true c18
                  have c18b1 : decide (x3_1.size + x4_1.size ≤ 9223372036854775807) = true := decide_eq_true c18
                  try have c18b2 : (9223372036854775807 < x3_1.size + x4_1.size) = False := eq_false (Nat.not_lt.2 c18)
                  by_cases c19 : (x3_1 ++ x4_1).size + 1 ≤ 9223372036854775807
                  · rw [if_pos c19] at H
                    have hz_false : wrap64 ((x4_1.size : Int) + 1) = (x4_1.size : Int) + 1 := by unfold wrap64; have hz1_ := c19; have hz2_ := ByteArray.size_append (a := x3_1) (b := x4_1); omega
                    have c14w_ : decide (wrap64 ((x4_1.size : Int) + 1 + ((rdOf ByteArray.empty t222 x6_1).size : Int)) ≤ 78) = false := by rw [hz_false] at c14b0; exact c14b0
                    clear hz_false
                    have c19n_ : x3_1.size + x4_1.size + 1 ≤ 9223372036854775807 := by rw [ByteArray.size_append] at c19; exact c19
                    have c19m_ : (9223372036854775807 < x3_1.size + x4_1.size + 1) = False := eq_false (Nat.not_lt.2 c19n_)
                    replace c19n_ := eq_true c19n_
                    have c19b0 := eq_true c19
                    have c19b1 : decide ((x3_1 ++ x4_1).size + 1 ≤ 9223372036854775807) = true := decide_eq_true c19
                    try have c19b2 : (9223372036854775807 < (x3_1 ++ x4_1).size + 1) = False := eq_false (Nat.not_lt.2 c19)
                    by_cases c20 : 1 + (rdOf ByteArray.empty t222 x6_1).size ≤ 9223372036854775807
                    · rw [if_pos c20] at H
                      have c20b0 := eq_true c20
                      have c20b1 : decide (1 + (rdOf ByteArray.empty t222 x6_1).size ≤ 9223372036854775807) = true := decide_eq_true c20
                      try have c20b2 : (9223372036854775807 < 1 + (rdOf ByteArray.empty t222 x6_1).size) = False := eq_false (Nat.not_lt.2 c20)
                      have H' := Aside0.mk H
                      clear H
                      obtain ⟨Ao21, co21, eo21⟩ := Kd.R_slice HO_5.out
                      subst eo21
                      have p226 : 0 ≤ (x6_1 : Int) := of_decide_eq_true (by first | (with_reducible assumption) | assumption)
                      have q226 : x6_1 < (t222.length : Int) := of_decide_eq_true (by first | (with_reducible assumption) | assumption)
                      obtain ⟨ad226, e226, hx226_0⟩ := Kd.at_string (Kd.R_reads' HO_5.out).2.2 x6_1 p226 q226
                      cases e226
                      replace p226 := eq_true p226
                      replace q226 := eq_true q226
                      have p228 : 0 ≤ (x6_1 : Int) := of_decide_eq_true (by first | (with_reducible assumption) | assumption)
                      have q228 : x6_1 < (t222.length : Int) := of_decide_eq_true (by first | (with_reducible assumption) | assumption)
                      obtain ⟨ad228, e228, hx228_0⟩ := Kd.at_string (Kd.R_reads' HO_5.out).2.2 x6_1 p228 q228
                      obtain rfl : ad226 = ad228 := (by injection e228)
                      replace p228 := eq_true p228
                      replace q228 := eq_true q228
                      go_wp2
                      go_roundg k1
                      case measure => have := HK1.out; omega
                      case rel => exact ⟨((x3_1 ++ x4_1) ++ (⟨#[10]⟩ : ByteArray)), ((⟨#[32]⟩ : ByteArray) ++ (rdOf ByteArray.empty t222 x6_1)), (wrap64 (x6_1 + 1)), (by first | rfl | (simp; done) | (simp [*]; done)), (by first | rfl | (simp; done) | (simp [*]; done)), (by first | rfl | (simp; done) | (simp [*]; done)), H', ⟨by have := HK1.out; omega⟩, ⟨by (with_reducible repeat (first | apply Kd.R_alloc | apply Kd.R_drewN | apply Kd.R_drew)); exact HO_5.out⟩, ⟨by (with_reducible repeat (first | refine blk_drewN ?_ _ | refine blk_drew ?_ | refine blk_alloc ?_ _)); exact BK221.out⟩, ⟨by repeat (first | (with_reducible first | exact HB.out | apply below_alloc | apply pw_below_drewN | apply below_drew1 | refine below_set ?_ GE221.out) | exact HB.out)⟩⟩
                    · rw [if_neg c20] at H
                      exact absurd H (by simp)
                  · rw [if_neg c19] at H
                    exact absurd H (by simp)
                · rw [if_neg c18] at H
                  exact absurd H (by simp)
            · rw [if_neg c13] at H
              exact absurd H (by simp)
        · rw [if_neg c7] at H
          have c7b0 : decide (x6_1 < (t222.length : Int)) = false := decide_eq_false c7
          clear c7
          by_cases c22 : x3_1.size + x4_1.size ≤ 9223372036854775807
          · rw [if_pos c22] at H
            have c22b0 := eq_true c22
            have c22b1 : decide (x3_1.size + x4_1.size ≤ 9223372036854775807) = true := decide_eq_true c22
            try have c22b2 : (9223372036854775807 < x3_1.size + x4_1.size) = False := eq_false (Nat.not_lt.2 c22)
            by_cases c23 : (x3_1 ++ x4_1).size + 1 ≤ 9223372036854775807
            · rw [if_pos c23] at H
              have c23n_ : x3_1.size + x4_1.size + 1 ≤ 9223372036854775807 := by rw [ByteArray.size_append] at c23; exact c23
              have c23m_ : (9223372036854775807 < x3_1.size + x4_1.size + 1) = False := eq_false (Nat.not_lt.2 c23n_)
              replace c23n_ := eq_true c23n_
              have c23b0 := eq_true c23
              have c23b1 : decide ((x3_1 ++ x4_1).size + 1 ≤ 9223372036854775807) = true := decide_eq_true c23
              try have c23b2 : (9223372036854775807 < (x3_1 ++ x4_1).size + 1) = False := eq_false (Nat.not_lt.2 c23)
              obtain rfl := Option.some.inj H
              obtain ⟨Ao24, co24, eo24⟩ := Kd.R_slice HO_5.out
              subst eo24
              go_wp2
              go_ret
              exact ⟨by first | rfl | (simp [errW_none, errW_some] <;> rfl) | (simp [*, errW_none, errW_some] <;> rfl), by repeat (first | (with_reducible first | exact HB.out | apply below_alloc | apply pw_below_drewN | apply below_drew1 | refine below_set ?_ GE221.out) | exact HB.out)⟩
            · rw [if_neg c23] at H
              exact absurd H (by simp)
          · rw [if_neg c22] at H
            exact absurd H (by simp)
  · rw [if_neg c2] at H
    exact absurd H (by simp)

/-! ### bulletinref09_Print: function 44 -/
def bulletinref09_Print.l0 : Nat → List (S78) → ByteArray → Int → Option (ByteArray × Int)
  | 0, _, _, _ => none
  | k + 1, x0, x4, x5 => if x5 < (x0.length : Int) then (if 0 ≤ x5 then ((bulletinref09_Check.f k ((rd_T78 x0 x5).f0) ((rd_T78 x0 x5).f1)).bind fun t230 => (if t230 = 0 then ((bulletinref09_Fold.f k ((rd_T78 x0 x5).f0) ((rd_T78 x0 x5).f1)).bind fun t232 => (if x4.size + t232.size ≤ 9223372036854775807 then (bulletinref09_Print.l0 k x0 (x4 ++ t232) (wrap64 (x5 + 1))) else (none))) else (some ((⟨#[]⟩ : ByteArray), t230)))) else (none)) else (if (x4.size : Int) > 65536 then (some ((⟨#[]⟩ : ByteArray), 5)) else (some (x4, 0)))
def bulletinref09_Print.f (k : Nat) (l0 : List (S78)) : Option (ByteArray × Int) := if (l0.length : Int) > 64 then (some ((⟨#[]⟩ : ByteArray), 9)) else (bulletinref09_Print.l0 k l0 (⟨#[]⟩ : ByteArray) 0)
set_option maxHeartbeats 8000000 in
set_option maxRecDepth 100000 in
theorem bulletinref09_Print.calls (k : Nat) (A0 : Option Addr) (c0 : Nat) (l0 : List (S78)) (r1 : ByteArray) (r2 : Int) (w : World) (hr0 : Kd.C k78 w A0 l0.length l0) (hc0 : l0.length ≤ c0) (h : bulletinref09_Print.f k l0 = some (r1, r2)) :
    Calls Tryz.prog 44 #[.slice A0 l0.length c0] w fun e w' => e = .returned (.tuple #[.string r1, .int .i64 r2]) ∧ Below w.heap.size w w' := by
  have hu78 := Tryz.underlying78
  have HR0 := Aside0.mk hr0
  have HC0 := Aside0.mk hc0
  clear hr0 hc0
  have HB := Aside0.mk (Below.refl w.heap.size w)
  have H : (if (l0.length : Int) > 64 then (some ((⟨#[]⟩ : ByteArray), 9)) else (bulletinref09_Print.l0 k l0 (⟨#[]⟩ : ByteArray) 0)) = some (r1, r2) := h
  clear h
  by_cases c2 : (l0.length : Int) > 64
  · rw [if_pos c2] at H
    have c2b0 : decide (64 < (l0.length : Int)) = true := decide_eq_true c2
    have c2b1 : decide (64 < l0.length) = true := decide_eq_true (by omega)
    clear c2
    simp only [Option.some.injEq, Prod.mk.injEq] at H
    obtain ⟨rfl, rfl⟩ := H
    go_enter Tryz.func44, Tryz.ntmps44
    go_wp2
    go_ret2
    exact ⟨by first | rfl | (simp [errW_none, errW_some] <;> rfl) | (simp [*, errW_none, errW_some] <;> rfl), by repeat (first | (with_reducible first | exact HB.out | apply below_alloc | apply pw_below_drewN | apply below_drew1) | exact HB.out)⟩
  · rw [if_neg c2] at H
    have c2b0 : decide (64 < (l0.length : Int)) = false := decide_eq_false c2
    have c2b1 : decide (64 < l0.length) = false := decide_eq_false (by omega)
    clear c2
    have H' := Aside0.mk H
    clear H
    go_enter Tryz.func44, Tryz.ntmps44
    go_wp2
    go_loopg [4, 5] k (fun kq v4 v5 w' => ∃ (x4_1 : ByteArray) (x5_1 : Int), v4 = .string x4_1 ∧ v5 = .int .i64 x5_1 ∧ Aside0 (bulletinref09_Print.l0 kq l0 x4_1 x5_1 = some (r1, r2)) ∧ Aside0 (kq ≤ k) ∧ Aside0 (Below w.heap.size w w'))
    case atStart => exact ⟨((⟨#[]⟩ : ByteArray)), (0), (by first | rfl | (simp; done) | (simp [*]; done)), (by first | rfl | (simp; done) | (simp [*]; done)), H', ⟨Nat.le_refl _⟩, ⟨by repeat (first | (with_reducible first | exact HB.out | apply below_alloc | apply pw_below_drewN | apply below_drew1) | exact HB.out)⟩⟩
    case round =>
      clear H'
      try clear c2
      try clear c2b0
      try clear c2b1
      try clear p2
      obtain ⟨x4_1, x5_1, rfl, rfl, HA, HK1, HB⟩ := hrel
      cases gk with
      | zero => exact absurd HA.out (by simp [bulletinref09_Print.l0])
      | succ k1 =>
        have H := HA.out
        clear HA
        simp only [bulletinref09_Print.l0] at H
        by_cases c3 : x5_1 < (l0.length : Int)
        · rw [if_pos c3] at H
          have c3b0 : decide (x5_1 < (l0.length : Int)) = true := decide_eq_true c3
          clear c3
          by_cases c4 : 0 ≤ x5_1
          · rw [if_pos c4] at H
            have c4b0 : decide (0 ≤ x5_1) = true := decide_eq_true c4
            clear c4
            replace H := Option.bind_eq_some_iff.mp H
            obtain ⟨t230, A50, H⟩ := H
            replace H : (if t230 = 0 then ((bulletinref09_Fold.f k1 ((rd_T78 l0 x5_1).f0) ((rd_T78 l0 x5_1).f1)).bind fun t232 => (if x4_1.size + t232.size ≤ 9223372036854775807 then (bulletinref09_Print.l0 k1 l0 (x4_1 ++ t232) (wrap64 (x5_1 + 1))) else (none))) else (some ((⟨#[]⟩ : ByteArray), t230))) = some (r1, r2) := H
            have A5 := Aside0.mk A50
            clear A50
            by_cases c6 : t230 = 0
            · rw [if_pos c6] at H
              have c6b0 : (t230 == 0) = true := beq_iff_eq.mpr c6
              have c6b1 : (t230 != 0) = false := bne_eq_false_iff_eq.mpr c6
              clear c6
              replace H := Option.bind_eq_some_iff.mp H
              obtain ⟨t232, A70, H⟩ := H
              replace H : (if x4_1.size + t232.size ≤ 9223372036854775807 then (bulletinref09_Print.l0 k1 l0 (x4_1 ++ t232) (wrap64 (x5_1 + 1))) else (none)) = some (r1, r2) := H
              have A7 := Aside0.mk A70
              clear A70
              by_cases c8 : x4_1.size + t232.size ≤ 9223372036854775807
              · rw [if_pos c8] at H
                have c8b0 := eq_true c8
                have c8b1 : decide (x4_1.size + t232.size ≤ 9223372036854775807) = true := decide_eq_true c8
                try have c8b2 : (9223372036854775807 < x4_1.size + t232.size) = False := eq_false (Nat.not_lt.2 c8)
                have H' := Aside0.mk H
                clear H
                have p229 : 0 ≤ (x5_1 : Int) := of_decide_eq_true (by first | (with_reducible assumption) | assumption)
                have q229 : x5_1 < (l0.length : Int) := of_decide_eq_true (by first | (with_reducible assumption) | assumption)
                obtain ⟨ad229, e229, hx229_0, hx229_1⟩ := at_T78 HR0.out x5_1 p229 q229
                cases e229
                replace hx229_0 := (HB.out.cell (World.block_lt_of_cell? w _ hx229_0)).trans hx229_0
                replace hx229_1 := (HB.out.cell (World.block_lt_of_cell? w _ hx229_1)).trans hx229_1
                replace p229 := eq_true p229
                replace q229 := eq_true q229
                go_wp2_with (first | ((with_reducible refine gate_callee (f := 72) rfl ?_); refine goesL_ (some 20) rfl rfl Tryz.func72 (by kernel_rfl) rfl #[.agg #[.string ((rd_T78 l0 x5_1).f0), .string ((rd_T78 l0 x5_1).f1)]] rfl (by (try simp only [List.map_toArray, List.map_cons, List.map_nil]); first | done | rfl | (simp only [List.length_drop, List.length_take]; rfl)) ?_; (with_reducible refine (bulletinref09_Check.calls k1 ((rd_T78 l0 x5_1).f0) ((rd_T78 l0 x5_1).f1) t230 _ A5.out).mono ?_); rintro e w9 ⟨rfl, hb⟩; refine ⟨_, rfl, ?_⟩; have n0_ := Aside0.mk (below_step (by repeat (first | (with_reducible first | exact HB.out | apply below_alloc | apply pw_below_drewN | apply below_drew1) | exact HB.out)) hb); clear HB; have HB := n0_; clear n0_; (try clear hb); (try clear hb2); (try clear hk); (try clear hi); have p231 : 0 ≤ (x5_1 : Int) := of_decide_eq_true (by first | (with_reducible assumption) | assumption); have q231 : x5_1 < (l0.length : Int) := of_decide_eq_true (by first | (with_reducible assumption) | assumption); obtain ⟨ad231, e231, hx231_0, hx231_1⟩ := at_T78 HR0.out x5_1 p231 q231; obtain rfl : ad229 = ad231 := (by injection e231); replace hx231_0 := (HB.out.cell (World.block_lt_of_cell? w _ hx231_0)).trans hx231_0; replace hx231_1 := (HB.out.cell (World.block_lt_of_cell? w _ hx231_1)).trans hx231_1; replace p231 := eq_true p231; replace q231 := eq_true q231) | ((with_reducible refine gate_callee (f := 73) rfl ?_); refine goesL_ (some 29) rfl rfl Tryz.func73 (by kernel_rfl) rfl #[.agg #[.string ((rd_T78 l0 x5_1).f0), .string ((rd_T78 l0 x5_1).f1)]] rfl (by (try simp only [List.map_toArray, List.map_cons, List.map_nil]); first | done | rfl | (simp only [List.length_drop, List.length_take]; rfl)) ?_; (with_reducible refine (bulletinref09_Fold.calls k1 ((rd_T78 l0 x5_1).f0) ((rd_T78 l0 x5_1).f1) t232 _ A7.out).mono ?_); rintro e w10 ⟨rfl, hb⟩; refine ⟨_, rfl, ?_⟩; have n0_ := Aside0.mk (below_step (by repeat (first | (with_reducible first | exact HB.out | apply below_alloc | apply pw_below_drewN | apply below_drew1) | exact HB.out)) hb); clear HB; have HB := n0_; clear n0_; (try clear hb); (try clear hb2); (try clear hk); (try clear hi)))
                go_roundg k1
                case measure => have := HK1.out; omega
                case rel => exact ⟨(x4_1 ++ t232), (wrap64 (x5_1 + 1)), (by first | rfl | (simp; done) | (simp [*]; done)), (by first | rfl | (simp; done) | (simp [*]; done)), H', ⟨by have := HK1.out; omega⟩, ⟨by repeat (first | (with_reducible first | exact HB.out | apply below_alloc | apply pw_below_drewN | apply below_drew1) | exact HB.out)⟩⟩
              · rw [if_neg c8] at H
                exact absurd H (by simp)
            · rw [if_neg c6] at H
              have c6b0 : (t230 == 0) = false := beq_eq_false_iff_ne.mpr c6
              have c6b1 : (t230 != 0) = true := bne_iff_ne.mpr c6
              simp only [Option.some.injEq, Prod.mk.injEq] at H
              obtain ⟨rfl, rfl⟩ := H
              have p229 : 0 ≤ (x5_1 : Int) := of_decide_eq_true (by first | (with_reducible assumption) | assumption)
              have q229 : x5_1 < (l0.length : Int) := of_decide_eq_true (by first | (with_reducible assumption) | assumption)
              obtain ⟨ad229, e229, hx229_0, hx229_1⟩ := at_T78 HR0.out x5_1 p229 q229
              cases e229
              replace hx229_0 := (HB.out.cell (World.block_lt_of_cell? w _ hx229_0)).trans hx229_0
              replace hx229_1 := (HB.out.cell (World.block_lt_of_cell? w _ hx229_1)).trans hx229_1
              replace p229 := eq_true p229
              replace q229 := eq_true q229
              go_wp2_with (first | ((with_reducible refine gate_callee (f := 72) rfl ?_); refine goesL_ (some 20) rfl rfl Tryz.func72 (by kernel_rfl) rfl #[.agg #[.string ((rd_T78 l0 x5_1).f0), .string ((rd_T78 l0 x5_1).f1)]] rfl (by (try simp only [List.map_toArray, List.map_cons, List.map_nil]); first | done | rfl | (simp only [List.length_drop, List.length_take]; rfl)) ?_; (with_reducible refine (bulletinref09_Check.calls k1 ((rd_T78 l0 x5_1).f0) ((rd_T78 l0 x5_1).f1) t230 _ A5.out).mono ?_); rintro e w11 ⟨rfl, hb⟩; refine ⟨_, rfl, ?_⟩; have n0_ := Aside0.mk (below_step (by repeat (first | (with_reducible first | exact HB.out | apply below_alloc | apply pw_below_drewN | apply below_drew1) | exact HB.out)) hb); clear HB; have HB := n0_; clear n0_; (try clear hb); (try clear hb2); (try clear hk); (try clear hi)))
              go_ret2
              exact ⟨by first | rfl | (simp [errW_none, errW_some] <;> rfl) | (simp [*, errW_none, errW_some] <;> rfl), by repeat (first | (with_reducible first | exact HB.out | apply below_alloc | apply pw_below_drewN | apply below_drew1) | exact HB.out)⟩
          · rw [if_neg c4] at H
            exact absurd H (by simp)
        · rw [if_neg c3] at H
          have c3b0 : decide (x5_1 < (l0.length : Int)) = false := decide_eq_false c3
          clear c3
          by_cases c12 : (x4_1.size : Int) > 65536
          · rw [if_pos c12] at H
            have c12b0 : decide (65536 < (x4_1.size : Int)) = true := decide_eq_true c12
            have c12b1 : decide (65536 < x4_1.size) = true := decide_eq_true (by omega)
            clear c12
            simp only [Option.some.injEq, Prod.mk.injEq] at H
            obtain ⟨rfl, rfl⟩ := H
            go_wp2
            go_ret2
            exact ⟨by first | rfl | (simp [errW_none, errW_some] <;> rfl) | (simp [*, errW_none, errW_some] <;> rfl), by repeat (first | (with_reducible first | exact HB.out | apply below_alloc | apply pw_below_drewN | apply below_drew1) | exact HB.out)⟩
          · rw [if_neg c12] at H
            have c12b0 : decide (65536 < (x4_1.size : Int)) = false := decide_eq_false c12
            have c12b1 : decide (65536 < x4_1.size) = false := decide_eq_false (by omega)
            clear c12
            simp only [Option.some.injEq, Prod.mk.injEq] at H
            obtain ⟨rfl, rfl⟩ := H
            go_wp2
            go_ret2
            exact ⟨by first | rfl | (simp [errW_none, errW_some] <;> rfl) | (simp [*, errW_none, errW_some] <;> rfl), by repeat (first | (with_reducible first | exact HB.out | apply below_alloc | apply pw_below_drewN | apply below_drew1) | exact HB.out)⟩

end Go.Proofs.YtfeciafdioepiaaGreatDoor.PA
namespace Go.Proofs.YtfeciafdioepiaaGreatDoor.PA
open Go.RowKit Go.Proofs.YtfeciafdioepiaaGreatDoorW.PrintWords Go.Proofs.YtfeciafdioepiaaGreatDoorW.PrintLast Go.Proofs.YtfeciafdioepiaaGreatDoorW.PrintMore
attribute [local go_sem] max2_int min2_int max_two min_two max_three min_three max_four min_four   -- for this text's walks alone
set_option linter.unusedVariables false
set_option linter.unusedSimpArgs false

/-! ### bulletinlaw15_to: function 25 -/
def bulletinlaw15_to.l0 : Nat → Int → List (S76) → ByteArray → List (S78) → ByteArray → Option ((List (S78)) × ByteArray)
  | 0, _, _, _, _, _ => none
  | k + 1, x4, x255000, x255001, x257000, x257001 => if x4 < (x255000.length : Int) then (if x4 < 70 then (if 0 ≤ x4 then (if x257000.length < 4398046511104 then (bulletinlaw15_to.l0 k (wrap64 (x4 + 1)) x255000 x255001 (x257000 ++ [(⟨(rd_T76 x255000 x4).f0, (rd_T76 x255000 x4).f1⟩ : S78)]) x257001) else (none)) else (none)) else (some (x257000, x257001))) else (some (x257000, x257001))
def bulletinlaw15_to.f (k : Nat) (l0_0 : List (S76)) (a0_1 : ByteArray) : Option ((List (S78)) × ByteArray) := if 0 ≤ (mn (a0_1.size : Int) 3000) then (if (mn (a0_1.size : Int) 3000) ≤ (a0_1.size : Int) then (bulletinlaw15_to.l0 k 0 l0_0 a0_1 ([] : List (S78)) (a0_1.extract 0 ((mn (a0_1.size : Int) 3000) : Int).toNat)) else (none)) else (none)
def bulletinlaw15_to.T5 : Bool × List (List Nat × List Nat) := (true, [([], []), ([0], [0]), ([], []), ([2], [2]), ([], []), ([3, 4], [3, 4]), ([5], [5]), ([6], [6]), ([], []), ([8], [8]), ([], []), ([9, 10], [9, 10]), ([11], [11]), ([12], [12]), ([7, 13], [7, 13]), ([14], [14]), ([1, 15], [1, 15]), ([0, 1, 2, 3, 4, 5, 6, 7, 8, 9, 10, 11, 12, 13, 14, 15, 16], []), ([17, 16, 16, 0, 1, 2, 3, 4, 5, 6, 7, 8, 9, 10, 11, 12, 13, 14, 15, 16], [16, 17])])
def bulletinlaw15_to.B5 : List Nat := [0, 1, 0, 4, 0, 28, 60, 124, 0, 256, 0, 1792, 3840, 7936, 16380, 32764, 65535, 131071, 262143]
theorem bulletinlaw15_to.tab5 : rtab .any (opsOf Tryz.f25 5) = bulletinlaw15_to.T5 := by kernel_rfl
theorem bulletinlaw15_to.bits5 : waitsOk bulletinlaw15_to.T5.2 bulletinlaw15_to.B5 = true := by kernel_rfl
set_option maxHeartbeats 8000000 in
set_option maxRecDepth 100000 in
theorem bulletinlaw15_to.calls (k : Nat) (A0_0 : Option Addr) (c0_0 : Nat) (l0_0 : List (S76)) (a0_1 : ByteArray) (r1 : List (S78)) (r2 : ByteArray) (w : World) (hr0_0 : Kd.C k76 w A0_0 l0_0.length l0_0) (hc0_0 : l0_0.length ≤ c0_0) (h : bulletinlaw15_to.f k l0_0 a0_1 = some (r1, r2)) :
    Calls Tryz.prog 25 #[.agg #[.slice A0_0 l0_0.length c0_0, .string a0_1]] w fun e w' => ∃ v0_ : Value, e = .returned (.agg #[v0_, .string r2]) ∧ Kd.R k78 78 w' w.heap.size (fun _ => True) v0_ r1 ∧ Below w.heap.size w w' := by
  have hu25 := Tryz.underlying25
  have hu31 := Tryz.underlying31
  have hu78 := Tryz.underlying78
  have HR0_0 := Aside0.mk hr0_0
  have HC0_0 := Aside0.mk hc0_0
  clear hr0_0 hc0_0
  have HB := Aside0.mk (Below.refl w.heap.size w)
  have H : (if 0 ≤ (mn (a0_1.size : Int) 3000) then (if (mn (a0_1.size : Int) 3000) ≤ (a0_1.size : Int) then (bulletinlaw15_to.l0 k 0 l0_0 a0_1 ([] : List (S78)) (a0_1.extract 0 ((mn (a0_1.size : Int) 3000) : Int).toNat)) else (none)) else (none)) = some (r1, r2) := h
  clear h
  obtain ⟨ji2, hji2⟩ : ∃ j_ : Int, (mn (a0_1.size : Int) 3000) = j_ := ⟨_, rfl⟩
  replace H : (if 0 ≤ (ji2) then (if (ji2) ≤ (a0_1.size : Int) then (bulletinlaw15_to.l0 k 0 l0_0 a0_1 ([] : List (S78)) (a0_1.extract 0 ((ji2) : Int).toNat)) else (none)) else (none)) = some (r1, r2) := by first | (rw [hji2] at H; exact H) | (simp only [hji2] at H ⊢; exact H)
  (try (have hji2h : ji2 ≤ 3000 := by (rw [← hji2]; unfold mn; (repeat' split) <;> omega)))
  (try (have hji2g : ji2 ≤ 64 := by omega))
  (try (have hji2l : 0 ≤ ji2 := by (rw [← hji2]; unfold mn; (repeat' split) <;> omega)))
  (try (have hji2m : 0 ≤ ji2 := by omega))
  have hji2_ : (if 3000 < (a0_1.size : Int) then 3000 else (a0_1.size : Int)) = ji2 := hji2
  by_cases c3 : 0 ≤ (ji2)
  · rw [if_pos c3] at H
    have c3b0 := eq_true c3
    have c3b1 : decide (0 ≤ (ji2)) = true := decide_eq_true c3
    clear c3
    by_cases c4 : (ji2) ≤ (a0_1.size : Int)
    · rw [if_pos c4] at H
      have c4b0 := eq_true c4
      have c4b1 : decide ((ji2) ≤ (a0_1.size : Int)) = true := decide_eq_true c4
      clear c4
      have H' := Aside0.mk H
      clear H
      go_enter Tryz.func25, Tryz.ntmps25
      go_wp2_with (first | ((with_reducible refine gate_dst (N := 1) rfl ?_); refine box_event ?hg (N := 1) ?hd (cs := #[.slice A0_0 l0_0.length c0_0, .string a0_1]) (t := 25) ?hr ?_; (case hd => rfl); (case hg => rfl); (case hr => first | (go_simp; done) | (go_simp; rfl)); intro gb254 hg w5 hbox hb; have n0_ := Aside0.mk (below_step (by repeat (first | (with_reducible first | exact HB.out | apply below_alloc | apply pw_below_drewN | apply below_drew1) | exact HB.out)) hb); have n1_ := Aside0.mk (hbox); have n2_ := Aside0.mk ((by rw [hg]; exact (below_size (by repeat (first | (with_reducible first | exact HB.out | apply below_alloc | apply pw_below_drewN | apply below_drew1) | exact HB.out))) : w.heap.size ≤ gb254)); have n3_ := Aside0.mk ((by rw [hg]; exact (below_size (by repeat (first | (with_reducible first | exact HB.out | apply below_alloc | apply pw_below_drewN | apply below_drew1) | exact HB.out))) : w.heap.size ≤ gb254)); clear HB; have HB := n0_; have BK254 := n1_; have GW254 := n2_; have GE254 := n3_; clear n0_ n1_ n2_ n3_; clear hb hbox hg) | ((with_reducible refine gate_dst (N := 2) rfl ?_); refine box_event ?hg (N := 2) ?hd (cs := #[.slice none 0 0, .string (⟨#[]⟩ : ByteArray)]) (t := 31) ?hr ?_; (case hd => rfl); (case hg => rfl); (case hr => first | (go_simp; done) | (go_simp; rfl)); intro gb255 hg w6 hbox hb; have n0_ := Aside0.mk (blk_below (g := gb254) (o := .cells #[.slice A0_0 l0_0.length c0_0, .string a0_1] 25 (0, 0)) (by (with_reducible repeat (first | refine blk_drewN ?_ _ | refine blk_drew ?_ | refine blk_alloc ?_ _)); exact BK254.out) hb); have n1_ := Aside0.mk (below_step (by repeat (first | (with_reducible first | exact HB.out | apply below_alloc | apply pw_below_drewN | apply below_drew1 | refine below_set ?_ GE254.out) | exact HB.out)) hb); have n2_ := Aside0.mk (hbox); have n3_ := Aside0.mk ((by rw [hg]; exact (below_size (by repeat (first | (with_reducible first | exact HB.out | apply below_alloc | apply pw_below_drewN | apply below_drew1 | refine below_set ?_ GE254.out) | exact HB.out))) : w.heap.size ≤ gb255)); have n4_ := Aside0.mk ((by rw [hg]; exact (below_size (by repeat (first | (with_reducible first | exact HB.out | apply below_alloc | apply pw_below_drewN | apply below_drew1 | refine below_set ?_ GE254.out) | exact HB.out))) : w.heap.size ≤ gb255)); have n5_ := Aside0.mk ((by rw [hg]; exact Nat.ne_of_lt (blk_lt (g := gb254) (o := .cells #[.slice A0_0 l0_0.length c0_0, .string a0_1] 25 (0, 0)) (by (with_reducible repeat (first | refine blk_drewN ?_ _ | refine blk_drew ?_ | refine blk_alloc ?_ _)); exact BK254.out)) : gb254 ≠ gb255)); have n6_ := Aside0.mk ((by rw [hg]; exact Nat.ne_of_gt (blk_lt (g := gb254) (o := .cells #[.slice A0_0 l0_0.length c0_0, .string a0_1] 25 (0, 0)) (by (with_reducible repeat (first | refine blk_drewN ?_ _ | refine blk_drew ?_ | refine blk_alloc ?_ _)); exact BK254.out)) : gb255 ≠ gb254)); clear BK254; clear HB; have BK254 := n0_; have HB := n1_; have BK255 := n2_; have GW255 := n3_; have GE255 := n4_; have NB254_255 := n5_; have NB255_254 := n6_; clear n0_ n1_ n2_ n3_ n4_ n5_ n6_; clear hb hbox hg; have hnb7 := NB254_255.out; have hnc7 := NB255_254.out; have hcz8_0 : w6.cell? ⟨gb254, 0, none⟩ = some (.slice A0_0 l0_0.length c0_0) := (blk_cell BK254.out 0).trans rfl; have hcz8_1 : w6.cell? ⟨gb254, 1, none⟩ = some (.string a0_1) := (blk_cell BK254.out 1).trans rfl; have hfz8_0 := blk_frozen BK254.out 0; have hfz8_1 := blk_frozen BK254.out 1) | ((with_reducible refine gate_dst (N := 3) rfl ?_); refine box_event ?hg (N := 3) ?hd (cs := #[.slice none 0 0, .string (⟨#[]⟩ : ByteArray)]) (t := 31) ?hr ?_; (case hd => rfl); (case hg => rfl); (case hr => first | (go_simp; done) | (go_simp; rfl)); intro gb256 hg w9 hbox hb; have n0_ := Aside0.mk (blk_below (g := gb254) (o := .cells #[.slice A0_0 l0_0.length c0_0, .string a0_1] 25 (0, 0)) (by (with_reducible repeat (first | refine blk_drewN ?_ _ | refine blk_drew ?_ | refine blk_alloc ?_ _)); exact BK254.out) hb); have n1_ := Aside0.mk (blk_below (g := gb255) (o := .cells #[.slice none 0 0, .string (⟨#[]⟩ : ByteArray)] 31 (0, 0)) (by (with_reducible repeat (first | refine blk_drewN ?_ _ | refine blk_drew ?_ | refine blk_alloc ?_ _)); exact BK255.out) hb); have n2_ := Aside0.mk (below_step (by repeat (first | (with_reducible first | exact HB.out | apply below_alloc | apply pw_below_drewN | apply below_drew1 | refine below_set ?_ GE254.out | refine below_set ?_ GE255.out) | exact HB.out)) hb); have n3_ := Aside0.mk (hbox); have n4_ := Aside0.mk ((by rw [hg]; exact (below_size (by repeat (first | (with_reducible first | exact HB.out | apply below_alloc | apply pw_below_drewN | apply below_drew1 | refine below_set ?_ GE254.out | refine below_set ?_ GE255.out) | exact HB.out))) : w.heap.size ≤ gb256)); have n5_ := Aside0.mk ((by rw [hg]; exact (below_size (by repeat (first | (with_reducible first | exact HB.out | apply below_alloc | apply pw_below_drewN | apply below_drew1 | refine below_set ?_ GE254.out | refine below_set ?_ GE255.out) | exact HB.out))) : w.heap.size ≤ gb256)); have n6_ := Aside0.mk ((by rw [hg]; exact Nat.ne_of_lt (blk_lt (g := gb254) (o := .cells #[.slice A0_0 l0_0.length c0_0, .string a0_1] 25 (0, 0)) (by (with_reducible repeat (first | refine blk_drewN ?_ _ | refine blk_drew ?_ | refine blk_alloc ?_ _)); exact BK254.out)) : gb254 ≠ gb256)); have n7_ := Aside0.mk ((by rw [hg]; exact Nat.ne_of_gt (blk_lt (g := gb254) (o := .cells #[.slice A0_0 l0_0.length c0_0, .string a0_1] 25 (0, 0)) (by (with_reducible repeat (first | refine blk_drewN ?_ _ | refine blk_drew ?_ | refine blk_alloc ?_ _)); exact BK254.out)) : gb256 ≠ gb254)); have n8_ := Aside0.mk ((by rw [hg]; exact Nat.ne_of_lt (blk_lt (g := gb255) (o := .cells #[.slice none 0 0, .string (⟨#[]⟩ : ByteArray)] 31 (0, 0)) (by (with_reducible repeat (first | refine blk_drewN ?_ _ | refine blk_drew ?_ | refine blk_alloc ?_ _)); exact BK255.out)) : gb255 ≠ gb256)); have n9_ := Aside0.mk ((by rw [hg]; exact Nat.ne_of_gt (blk_lt (g := gb255) (o := .cells #[.slice none 0 0, .string (⟨#[]⟩ : ByteArray)] 31 (0, 0)) (by (with_reducible repeat (first | refine blk_drewN ?_ _ | refine blk_drew ?_ | refine blk_alloc ?_ _)); exact BK255.out)) : gb256 ≠ gb255)); clear BK254; clear BK255; clear HB; have BK254 := n0_; have BK255 := n1_; have HB := n2_; have BK256 := n3_; have GW256 := n4_; have GE256 := n5_; have NB254_256 := n6_; have NB256_254 := n7_; have NB255_256 := n8_; have NB256_255 := n9_; clear n0_ n1_ n2_ n3_ n4_ n5_ n6_ n7_ n8_ n9_; clear hb hbox hg; have hnb10 := NB256_254.out; have hnc10 := NB254_256.out; have hnb11 := NB256_255.out; have hnc11 := NB255_256.out; have hcz12_0 : w9.cell? ⟨gb256, 0, none⟩ = some (.slice none 0 0) := (blk_cell BK256.out 0).trans rfl; have hcz12_1 : w9.cell? ⟨gb256, 1, none⟩ = some (.string (⟨#[]⟩ : ByteArray)) := (blk_cell BK256.out 1).trans rfl; have hfz12_0 := blk_frozen BK256.out 0; have hfz12_1 := blk_frozen BK256.out 1))
      go_loopg [4] k (fun kq v4 w' => ∃ (x4_1 : Int) (x257000_1 : List (S78)) (u257000 : Value), v4 = .int .i64 x4_1 ∧ Aside0 (bulletinlaw15_to.l0 kq x4_1 l0_0 a0_1 x257000_1 (a0_1.extract 0 ((ji2) : Int).toNat) = some (r1, r2)) ∧ Aside0 (kq ≤ k) ∧ Aside0 (Kd.R k78 78 w' w.heap.size (fun _ => True) u257000 x257000_1) ∧ Aside0 (w'.heap[gb254]? = some (.cells #[(.slice A0_0 l0_0.length c0_0), .string a0_1] 25 (0, 0))) ∧ Aside0 (w'.heap[gb255]? = some (.cells #[(.slice none 0 0), .string (⟨#[]⟩ : ByteArray)] 31 (0, 0))) ∧ Aside0 (w'.heap[gb256]? = some (.cells #[u257000, .string (a0_1.extract 0 ((ji2) : Int).toNat)] 31 (0, 0))) ∧ Aside0 (Below w.heap.size w w'))
      case atStart => exact ⟨(0), (([] : List (S78))), (.slice none 0 0), (by first | rfl | (simp; done) | (simp [*]; done)), H', ⟨Nat.le_refl _⟩, ⟨by first | exact Kd.R_nil _ _ _ _ _ | exact Kd.N_nil _ _ _ _ _ | exact Kd.V_nil _ _ _ _ _ | exact Kd.Q_nil _ _ _ _ _ | exact Kd.S_nil _ _ _ _ _⟩, ⟨by (with_reducible repeat (first | refine blk_drewN ?_ _ | refine blk_drew ?_ | refine blk_alloc ?_ _)); refine blk_far ?_ NB254_256.out _; (with_reducible repeat (first | refine blk_drewN ?_ _ | refine blk_drew ?_ | refine blk_alloc ?_ _)); refine blk_far ?_ NB254_256.out _; (with_reducible repeat (first | refine blk_drewN ?_ _ | refine blk_drew ?_ | refine blk_alloc ?_ _)); exact BK254.out⟩, ⟨by (with_reducible repeat (first | refine blk_drewN ?_ _ | refine blk_drew ?_ | refine blk_alloc ?_ _)); refine blk_far ?_ NB255_256.out _; (with_reducible repeat (first | refine blk_drewN ?_ _ | refine blk_drew ?_ | refine blk_alloc ?_ _)); refine blk_far ?_ NB255_256.out _; (with_reducible repeat (first | refine blk_drewN ?_ _ | refine blk_drew ?_ | refine blk_alloc ?_ _)); exact BK255.out⟩, ⟨by (with_reducible repeat (first | refine blk_drewN ?_ _ | refine blk_drew ?_ | refine blk_alloc ?_ _)); refine blk_put (cs := #[.slice none 0 0, .string (⟨#[]⟩ : ByteArray)]) ?_ 1 _ rfl; (with_reducible repeat (first | refine blk_drewN ?_ _ | refine blk_drew ?_ | refine blk_alloc ?_ _)); refine blk_put (cs := #[.slice none 0 0, .string (⟨#[]⟩ : ByteArray)]) ?_ 0 _ rfl; (with_reducible repeat (first | refine blk_drewN ?_ _ | refine blk_drew ?_ | refine blk_alloc ?_ _)); exact BK256.out⟩, ⟨by repeat (first | (with_reducible first | exact HB.out | apply below_alloc | apply pw_below_drewN | apply below_drew1 | refine below_set ?_ GE254.out | refine below_set ?_ GE255.out | refine below_set ?_ GE256.out) | exact HB.out)⟩⟩
      case round =>
        clear H'
        try clear c1
        try clear c2
        try clear p2
        try clear c3
        try clear c3b0
        try clear c3b1
        try clear c4
        try clear c4b0
        try clear c4b1
        try clear c7
        try clear c10
        try clear c11
        try clear hcz12_0
        try clear hcz12_1
        try clear hcz8_0
        try clear hcz8_1
        try clear hfz12_0
        try clear hfz12_1
        try clear hfz8_0
        try clear hfz8_1
        obtain ⟨x4_1, x257000_1, u257000, rfl, HA, HK1, HO_257000, BK254, BK255, BK256, HB⟩ := hrel
        cases gk with
        | zero => exact absurd HA.out (by simp [bulletinlaw15_to.l0])
        | succ k1 =>
          have H := HA.out
          clear HA
          simp only [bulletinlaw15_to.l0] at H
          by_cases c13 : x4_1 < (l0_0.length : Int)
          · rw [if_pos c13] at H
            have c13b0 : decide (x4_1 < (l0_0.length : Int)) = true := decide_eq_true c13
            clear c13
            by_cases c14 : x4_1 < 70
            · rw [if_pos c14] at H
              have c14b0 : decide (x4_1 < 70) = true := decide_eq_true c14
              clear c14
              by_cases c15 : 0 ≤ x4_1
              · rw [if_pos c15] at H
                have c15b0 : decide (0 ≤ x4_1) = true := decide_eq_true c15
                clear c15
                by_cases c16 : x257000_1.length < 4398046511104
                · rw [if_pos c16] at H
                  have LMc16 := Aside0.mk c16
                  clear c16
                  obtain ⟨y259, hy259⟩ : ∃ y_ : List (S78), y_ = (x257000_1 ++ [(⟨(rd_T76 l0_0 x4_1).f0, (rd_T76 l0_0 x4_1).f1⟩ : S78)]) := ⟨_, rfl⟩
                  replace H : (bulletinlaw15_to.l0 k1 (wrap64 (x4_1 + 1)) l0_0 a0_1 y259 (a0_1.extract 0 ((ji2) : Int).toNat)) = some (r1, r2) := by first | (rw [hy259]; with_reducible exact H) | (have H2_ := (Option.bind_some _ _).symm.trans H; rw [hy259]; with_reducible exact H2_) | (have H2_ := (Option.bind_some _ _).symm.trans H; with_reducible exact H2_) | with_reducible exact H | (rw [hy259]; exact H) | exact H
                  have Ny259 := Aside0.mk hy259
                  clear hy259
                  have H' := Aside0.mk H
                  clear H
                  have hnb17 := NB254_255.out
                  have hnc17 := NB255_254.out
                  have hnb18 := NB254_256.out
                  have hnc18 := NB256_254.out
                  have hcz19_0 : wr.cell? ⟨gb254, 0, none⟩ = some (.slice A0_0 l0_0.length c0_0) := (blk_cell BK254.out 0).trans rfl
                  have hcz19_1 : wr.cell? ⟨gb254, 1, none⟩ = some (.string a0_1) := (blk_cell BK254.out 1).trans rfl
                  have hfz19_0 := blk_frozen BK254.out 0
                  have hfz19_1 := blk_frozen BK254.out 1
                  try go_wp2
                  have n0_ := Aside0.mk (Kd.R_drew HO_257000.out)
                  have n1_ := Aside0.mk (blk_drew BK254.out)
                  have n2_ := Aside0.mk (blk_drew BK255.out)
                  have n3_ := Aside0.mk (blk_drew BK256.out)
                  have n4_ := Aside0.mk (below_drew1 HB.out)
                  clear HO_257000
                  clear BK254
                  clear BK255
                  clear BK256
                  clear HB
                  have HO_257000 := n0_
                  have BK254 := n1_
                  have BK255 := n2_
                  have BK256 := n3_
                  have HB := n4_
                  clear n0_ n1_ n2_ n3_ n4_
                  have p257 : 0 ≤ (x4_1 : Int) := of_decide_eq_true (by first | (with_reducible assumption) | assumption)
                  have q257 : x4_1 < (l0_0.length : Int) := of_decide_eq_true (by first | (with_reducible assumption) | assumption)
                  obtain ⟨ad257, e257, hx257_0, hx257_1⟩ := at_T76 HR0_0.out x4_1 p257 q257
                  have hw257_1 := hx257_1
                  have hw257_0 := hx257_0
                  cases e257
                  replace hx257_0 := (HB.out.cell (World.block_lt_of_cell? w _ hx257_0)).trans hx257_0
                  replace hx257_1 := (HB.out.cell (World.block_lt_of_cell? w _ hx257_1)).trans hx257_1
                  replace p257 := eq_true p257
                  replace q257 := eq_true q257
                  have p258 : 0 ≤ (x4_1 : Int) := of_decide_eq_true (by first | (with_reducible assumption) | assumption)
                  have q258 : x4_1 < (l0_0.length : Int) := of_decide_eq_true (by first | (with_reducible assumption) | assumption)
                  obtain ⟨ad258, e258, hx258_0, hx258_1⟩ := at_T76 HR0_0.out x4_1 p258 q258
                  have hw258_1 := hx258_1
                  have hw258_0 := hx258_0
                  obtain rfl : ad257 = ad258 := (by injection e258)
                  replace hx258_0 := (HB.out.cell (World.block_lt_of_cell? w _ hx258_0)).trans hx258_0
                  replace hx258_1 := (HB.out.cell (World.block_lt_of_cell? w _ hx258_1)).trans hx258_1
                  replace p258 := eq_true p258
                  replace q258 := eq_true q258
                  refine start_ (n := 19) (S := fun w' => w'.cell? ⟨gb256, 0, none⟩ = some (u257000) ∧ w'.cell? ⟨gb256, 1, none⟩ = some (.string (a0_1.extract 0 ((ji2) : Int).toNat)) ∧ w'.cell? ⟨gb254, 0, none⟩ = some (.slice (some ad257) l0_0.length c0_0) ∧ w'.cell? ⟨gb254, 1, none⟩ = some (.string a0_1) ∧ w'.cell? (ad257.add ((x4_1).toNat * 2)) = some (.string ((rd_T76 l0_0 x4_1).f0)) ∧ w'.cell? ⟨(ad257.add ((x4_1).toNat * 2)).block, (ad257.add ((x4_1).toNat * 2)).off + 1, none⟩ = some (.string ((rd_T76 l0_0 x4_1).f1)) ∧ w'.cell? (ad257.add ((x4_1).toNat * 2)) = some (.string ((rd_T76 l0_0 x4_1).f0)) ∧ w'.cell? ⟨(ad257.add ((x4_1).toNat * 2)).block, (ad257.add ((x4_1).toNat * 2)).off + 1, none⟩ = some (.string ((rd_T76 l0_0 x4_1).f1))) (ds := [18]) #[false, false, false, false, false, false, false, false, false, false, false, false, false, false, false, false, false, false, false] (by kernel_rfl) rfl rfl ⟨(blk_cell BK256.out 0).trans rfl, (blk_cell BK256.out 1).trans rfl, (blk_cell BK254.out 0).trans rfl, (blk_cell BK254.out 1).trans rfl, ((HB.out.cell (World.block_lt_of_cell? w _ hw257_0)).trans hw257_0), ((HB.out.cell (World.block_lt_of_cell? w _ hw257_1)).trans hw257_1), ((HB.out.cell (World.block_lt_of_cell? w _ hw258_0)).trans hw258_0), ((HB.out.cell (World.block_lt_of_cell? w _ hw258_1)).trans hw258_1)⟩ (fun hHeld => ?_); refine with_tabW bulletinlaw15_to.tab5 bulletinlaw15_to.bits5 (fun HT_ HW_ => ?_)
                  generalize wr.drew = w20 at HO_257000 BK254 BK255 BK256 HB hx257_0 hx257_1 hx258_0 hx258_1 hHeld ⊢
                  refine pure_ (i := 0) (N := some 24) (v := ?_) (a' := ?_) #[true, false, false, false, false, false, false, false, false, false, false, false, false, false, false, false, false, false, false] rfl rfl (any_of HT_.out (by kernel_rfl)) (fun _ _ _ h => h) (Or.inl ⟨by rfl, ?_⟩) ?_ ?_
                  rotate_left
                  · intro w'
                    go_simp
                    with_reducible rfl
                  rotate_left
                  · simp only [Act.put, List.setIfInBounds_toArray, List.set_cons_zero, List.set_cons_succ, i64_w, i32_w]
                    rfl
                  refine pure_ (i := 2) (N := some 26) (v := ?_) (a' := ?_) #[true, false, true, false, false, false, false, false, false, false, false, false, false, false, false, false, false, false, false] rfl rfl (any_of HT_.out (by kernel_rfl)) (fun _ _ _ h => h) (Or.inl ⟨by rfl, ?_⟩) ?_ ?_
                  rotate_left
                  · intro w'
                    go_simp
                    with_reducible rfl
                  rotate_left
                  · simp only [Act.put, List.setIfInBounds_toArray, List.set_cons_zero, List.set_cons_succ, i64_w, i32_w]
                    rfl
                  refine pure_ (i := 4) (N := some 28) (v := ?_) (a' := ?_) #[true, false, true, false, true, false, false, false, false, false, false, false, false, false, false, false, false, false, false] rfl rfl (any_of HT_.out (by kernel_rfl)) (fun _ _ _ h => h) (Or.inl ⟨by rfl, ?_⟩) ?_ ?_
                  rotate_left
                  · intro w'
                    go_simp
                    with_reducible rfl
                  rotate_left
                  · simp only [Act.put, List.setIfInBounds_toArray, List.set_cons_zero, List.set_cons_succ, i64_w, i32_w]
                    rfl
                  refine pure_ (i := 8) (N := some 32) (v := ?_) (a' := ?_) #[true, false, true, false, true, false, false, false, true, false, false, false, false, false, false, false, false, false, false] rfl rfl (any_of HT_.out (by kernel_rfl)) (fun _ _ _ h => h) (Or.inl ⟨by rfl, ?_⟩) ?_ ?_
                  rotate_left
                  · intro w'
                    go_simp
                    with_reducible rfl
                  rotate_left
                  · simp only [Act.put, List.setIfInBounds_toArray, List.set_cons_zero, List.set_cons_succ, i64_w, i32_w]
                    rfl
                  refine pure_ (i := 10) (N := some 34) (v := ?_) (a' := ?_) #[true, false, true, false, true, false, false, false, true, false, true, false, false, false, false, false, false, false, false] rfl rfl (any_of HT_.out (by kernel_rfl)) (fun _ _ _ h => h) (Or.inl ⟨by rfl, ?_⟩) ?_ ?_
                  rotate_left
                  · intro w'
                    go_simp
                    with_reducible rfl
                  rotate_left
                  · simp only [Act.put, List.setIfInBounds_toArray, List.set_cons_zero, List.set_cons_succ, i64_w, i32_w]
                    rfl
                  refine take_ (i := 1) (N := some 25) (v := ?_) (a' := ?_) #[true, true, true, false, true, false, false, false, true, false, true, false, false, false, false, false, false, false, false] rfl rfl (take_ofW HT_.out HW_.out (by kernel_rfl)) (fun _ _ _ h => h) (Or.inl ⟨by rfl, ?_⟩) hHeld ?_ ?_
                  rotate_left
                  · rintro w' ⟨s0, s1, s2, s3, s4, s5, s6, s7⟩
                    go_simp
                    with_reducible rfl
                  rotate_left
                  · simp only [Act.put, List.setIfInBounds_toArray, List.set_cons_zero, List.set_cons_succ, i64_w, i32_w]
                    rfl
                  refine take_ (i := 3) (N := some 27) (v := ?_) (a' := ?_) #[true, true, true, true, true, false, false, false, true, false, true, false, false, false, false, false, false, false, false] rfl rfl (take_ofW HT_.out HW_.out (by kernel_rfl)) (fun _ _ _ h => h) (Or.inl ⟨by rfl, ?_⟩) hHeld ?_ ?_
                  rotate_left
                  · rintro w' ⟨s0, s1, s2, s3, s4, s5, s6, s7⟩
                    go_simp
                    with_reducible rfl
                  rotate_left
                  · simp only [Act.put, List.setIfInBounds_toArray, List.set_cons_zero, List.set_cons_succ, i64_w, i32_w]
                    rfl
                  refine pure_ (i := 5) (N := some 29) (v := ?_) (a' := ?_) #[true, true, true, true, true, true, false, false, true, false, true, false, false, false, false, false, false, false, false] rfl rfl (any_of HT_.out (by kernel_rfl)) (fun _ _ _ h => h) (Or.inl ⟨by rfl, ?_⟩) ?_ ?_
                  rotate_left
                  · intro w'
                    go_simp
                    with_reducible rfl
                  rotate_left
                  · simp only [Act.put, List.setIfInBounds_toArray, List.set_cons_zero, List.set_cons_succ, i64_w, i32_w]
                    rfl
                  refine pure_ (i := 6) (N := some 30) (v := ?_) (a' := ?_) #[true, true, true, true, true, true, true, false, true, false, true, false, false, false, false, false, false, false, false] rfl rfl (any_of HT_.out (by kernel_rfl)) (fun _ _ _ h => h) (Or.inl ⟨by rfl, ?_⟩) ?_ ?_
                  rotate_left
                  · intro w'
                    go_simp
                    with_reducible rfl
                  rotate_left
                  · simp only [Act.put, List.setIfInBounds_toArray, List.set_cons_zero, List.set_cons_succ, i64_w, i32_w]
                    rfl
                  refine take_ (i := 7) (N := some 31) (v := ?_) (a' := ?_) #[true, true, true, true, true, true, true, true, true, false, true, false, false, false, false, false, false, false, false] rfl rfl (take_ofW HT_.out HW_.out (by kernel_rfl)) (fun _ _ _ h => h) (Or.inl ⟨by rfl, ?_⟩) hHeld ?_ ?_
                  rotate_left
                  · rintro w' ⟨s0, s1, s2, s3, s4, s5, s6, s7⟩
                    go_simp
                    with_reducible rfl
                  rotate_left
                  · simp only [Act.put, List.setIfInBounds_toArray, List.set_cons_zero, List.set_cons_succ, i64_w, i32_w]
                    rfl
                  refine take_ (i := 9) (N := some 33) (v := ?_) (a' := ?_) #[true, true, true, true, true, true, true, true, true, true, true, false, false, false, false, false, false, false, false] rfl rfl (take_ofW HT_.out HW_.out (by kernel_rfl)) (fun _ _ _ h => h) (Or.inl ⟨by rfl, ?_⟩) hHeld ?_ ?_
                  rotate_left
                  · rintro w' ⟨s0, s1, s2, s3, s4, s5, s6, s7⟩
                    go_simp
                    with_reducible rfl
                  rotate_left
                  · simp only [Act.put, List.setIfInBounds_toArray, List.set_cons_zero, List.set_cons_succ, i64_w, i32_w]
                    rfl
                  refine pure_ (i := 11) (N := some 35) (v := ?_) (a' := ?_) #[true, true, true, true, true, true, true, true, true, true, true, true, false, false, false, false, false, false, false] rfl rfl (any_of HT_.out (by kernel_rfl)) (fun _ _ _ h => h) (Or.inl ⟨by rfl, ?_⟩) ?_ ?_
                  rotate_left
                  · intro w'
                    go_simp
                    with_reducible rfl
                  rotate_left
                  · simp only [Act.put, List.setIfInBounds_toArray, List.set_cons_zero, List.set_cons_succ, i64_w, i32_w]
                    rfl
                  refine pure_ (i := 12) (N := some 36) (v := ?_) (a' := ?_) #[true, true, true, true, true, true, true, true, true, true, true, true, true, false, false, false, false, false, false] rfl rfl (any_of HT_.out (by kernel_rfl)) (fun _ _ _ h => h) (Or.inl ⟨by rfl, ?_⟩) ?_ ?_
                  rotate_left
                  · intro w'
                    go_simp
                    with_reducible rfl
                  rotate_left
                  · simp only [Act.put, List.setIfInBounds_toArray, List.set_cons_zero, List.set_cons_succ, i64_w, i32_w]
                    rfl
                  refine take_ (i := 13) (N := some 37) (v := ?_) (a' := ?_) #[true, true, true, true, true, true, true, true, true, true, true, true, true, true, false, false, false, false, false] rfl rfl (take_ofW HT_.out HW_.out (by kernel_rfl)) (fun _ _ _ h => h) (Or.inl ⟨by rfl, ?_⟩) hHeld ?_ ?_
                  rotate_left
                  · rintro w' ⟨s0, s1, s2, s3, s4, s5, s6, s7⟩
                    go_simp
                    with_reducible rfl
                  rotate_left
                  · simp only [Act.put, List.setIfInBounds_toArray, List.set_cons_zero, List.set_cons_succ, i64_w, i32_w]
                    rfl
                  refine pure_ (i := 14) (N := some 38) (v := ?_) (a' := ?_) #[true, true, true, true, true, true, true, true, true, true, true, true, true, true, true, false, false, false, false] rfl rfl (any_of HT_.out (by kernel_rfl)) (fun _ _ _ h => h) (Or.inl ⟨by rfl, ?_⟩) ?_ ?_
                  rotate_left
                  · intro w'
                    go_simp
                    with_reducible rfl
                  rotate_left
                  · simp only [Act.put, List.setIfInBounds_toArray, List.set_cons_zero, List.set_cons_succ, i64_w, i32_w]
                    rfl
                  refine one_ (i := 15) (N := some 39) #[true, true, true, true, true, true, true, true, true, true, true, true, true, true, true, true, false, false, false] rfl rfl (one_of HT_.out (by kernel_rfl)) (by decide) (fun K hK => ?_)
                  refine value_ (w1 := ?_) (v := ?_) (by rfl) rfl ?_ ?_
                  rotate_left 2
                  · go_simp
                    constructor
                    · rfl
                    · rfl
                  refine hK.out _ _ ⟨(blk_cell (blk_alloc BK256.out _) 0).trans rfl, (blk_cell (blk_alloc BK256.out _) 1).trans rfl, (blk_cell (blk_alloc BK254.out _) 0).trans rfl, (blk_cell (blk_alloc BK254.out _) 1).trans rfl, (World.cell?_alloc_lt _ _ _ (World.block_lt_of_cell? _ _ (((HB.out.cell (World.block_lt_of_cell? w _ hw257_0)).trans hw257_0)))).trans (((HB.out.cell (World.block_lt_of_cell? w _ hw257_0)).trans hw257_0)), (World.cell?_alloc_lt _ _ _ (World.block_lt_of_cell? _ _ (((HB.out.cell (World.block_lt_of_cell? w _ hw257_1)).trans hw257_1)))).trans (((HB.out.cell (World.block_lt_of_cell? w _ hw257_1)).trans hw257_1)), (World.cell?_alloc_lt _ _ _ (World.block_lt_of_cell? _ _ (((HB.out.cell (World.block_lt_of_cell? w _ hw258_0)).trans hw258_0)))).trans (((HB.out.cell (World.block_lt_of_cell? w _ hw258_0)).trans hw258_0)), (World.cell?_alloc_lt _ _ _ (World.block_lt_of_cell? _ _ (((HB.out.cell (World.block_lt_of_cell? w _ hw258_1)).trans hw258_1)))).trans (((HB.out.cell (World.block_lt_of_cell? w _ hw258_1)).trans hw258_1))⟩ (fun hHeld => ?_)
                  clear hK K
                  refine norm_ (a' := ?_) ?_ ?_
                  rotate_left
                  · show Act.put _ (some 39) _ = _
                    simp only [Act.put, List.setIfInBounds_toArray, List.set_cons_zero, List.set_cons_succ, i64_w, i32_w]
                    rfl
                  refine one_ (i := 16) (N := some 40) #[true, true, true, true, true, true, true, true, true, true, true, true, true, true, true, true, true, false, false] rfl rfl (one_of HT_.out (by kernel_rfl)) (by decide) (fun K hK => ?_)
                  refine Kd.R_append_step k78 (w0 := w) w.heap.size (by rfl) (.tmp 25) (.tmp 39) 29 78 (.agg #[(.string ⟨#[]⟩), (.string ⟨#[]⟩)]) 32 rfl Tryz.underlying29 info78 rfl (by decide) (by omega) u257000 x257000_1 (⟨(rd_T76 l0_0 x4_1).f0, (rd_T76 l0_0 x4_1).f1⟩ : S78) [.string ((rd_T76 l0_0 x4_1).f0), .string ((rd_T76 l0_0 x4_1).f1)] (fun _ => True) (fun _ => False) rfl rfl ?aP (fun _ hk => hk.elim) ?aF ?aO ?aB ?aS ?aL ?_
                  (case aP => exact k78_mkM _ _ _ (⟨(rd_T76 l0_0 x4_1).f0, (rd_T76 l0_0 x4_1).f1⟩ : S78))
                  (case aB => exact (by repeat (first | (with_reducible first | exact HB.out | apply below_alloc | apply pw_below_drewN | apply below_drew1 | refine below_set ?_ GE254.out | refine below_set ?_ GE255.out | refine below_set ?_ GE256.out) | exact HB.out)))
                  (case aF => exact (fun _ _ => trivial))
                  (case aO => exact (by (with_reducible repeat (first | apply Kd.R_alloc | apply Kd.R_drewN | apply Kd.R_drew)); exact HO_257000.out))
                  (case aS => exact (below_size (by repeat (first | (with_reducible first | exact HB.out | apply below_alloc | apply pw_below_drewN | apply below_drew1 | refine below_set ?_ GE254.out | refine below_set ?_ GE255.out | refine below_set ?_ GE256.out) | exact HB.out))))
                  (case aL => have := LMc16.out; omega)
                  intro v260 w21 ho hb hg hat
                  rw [← Ny259.out] at ho
                  have n0_ := Aside0.mk (blk_grown (g := gb254) (o := .cells #[.slice (some ad257) l0_0.length c0_0, .string a0_1] 25 (0, 0)) (by (with_reducible repeat (first | refine blk_drewN ?_ _ | refine blk_drew ?_ | refine blk_alloc ?_ _)); exact BK254.out) hg (Kd.R_ne HO_257000.out BK254.out (by decide)))
                  have n1_ := Aside0.mk (blk_grown (g := gb255) (o := .cells #[.slice none 0 0, .string (⟨#[]⟩ : ByteArray)] 31 (0, 0)) (by (with_reducible repeat (first | refine blk_drewN ?_ _ | refine blk_drew ?_ | refine blk_alloc ?_ _)); exact BK255.out) hg (Kd.R_ne HO_257000.out BK255.out (by decide)))
                  have n2_ := Aside0.mk (blk_grown (g := gb256) (o := .cells #[u257000, .string (a0_1.extract 0 ((ji2) : Int).toNat)] 31 (0, 0)) (by (with_reducible repeat (first | refine blk_drewN ?_ _ | refine blk_drew ?_ | refine blk_alloc ?_ _)); exact BK256.out) hg (Kd.R_ne HO_257000.out BK256.out (by decide)))
                  have n3_ := Aside0.mk (hb)
                  have n4_ := Aside0.mk (ho)
                  clear BK254
                  clear BK255
                  clear BK256
                  clear HB
                  clear HO_257000
                  have BK254 := n0_
                  have BK255 := n1_
                  have BK256 := n2_
                  have HB := n3_
                  have HO261 := n4_
                  clear n0_ n1_ n2_ n3_ n4_
                  clear ho hb hg hat
                  obtain ⟨Ao22, co22, eo22⟩ := Kd.R_slice HO261.out
                  (first | subst eo22 | (injection eo22 with f1_ f2_ f3_; have f4_ := f1_.symm; have f5_ := f3_.symm; clear f1_ f2_ f3_; subst f4_; subst f5_))
                  refine hK.out _ _ ⟨(blk_cell BK256.out 0).trans rfl, (blk_cell BK256.out 1).trans rfl, (blk_cell BK254.out 0).trans rfl, (blk_cell BK254.out 1).trans rfl, ((HB.out.cell (World.block_lt_of_cell? w _ hw257_0)).trans hw257_0), ((HB.out.cell (World.block_lt_of_cell? w _ hw257_1)).trans hw257_1), ((HB.out.cell (World.block_lt_of_cell? w _ hw258_0)).trans hw258_0), ((HB.out.cell (World.block_lt_of_cell? w _ hw258_1)).trans hw258_1)⟩ (fun hHeld => ?_)
                  clear hK K
                  refine norm_ (a' := ?_) ?_ ?_
                  rotate_left
                  · show Act.put _ (some 40) _ = _
                    simp only [Act.put, List.setIfInBounds_toArray, List.set_cons_zero, List.set_cons_succ, i64_w, i32_w]
                    rfl
                  refine pure_ (i := 17) (N := some 41) (v := ?_) (a' := ?_) #[true, true, true, true, true, true, true, true, true, true, true, true, true, true, true, true, true, true, false] rfl rfl (any_of HT_.out (by kernel_rfl)) (fun _ _ _ h => h) (Or.inl ⟨by rfl, ?_⟩) ?_ ?_
                  rotate_left
                  · intro w'
                    go_simp
                    with_reducible rfl
                  rotate_left
                  · simp only [Act.put, List.setIfInBounds_toArray, List.set_cons_zero, List.set_cons_succ, i64_w, i32_w]
                    rfl
                  refine last_ (i := 18) (N := none) #[true, true, true, true, true, true, true, true, true, true, true, true, true, true, true, true, true, true, true] rfl rfl (one_of HT_.out (by kernel_rfl)) (by decide) (fun K hK => ?_)
                  have hs23 : w21.cell? ⟨gb256, 0, none⟩ = some (u257000) := (blk_cell BK256.out 0).trans rfl
                  have hfs23 := blk_frozen BK256.out 0
                  have hns23_0 := NB254_256.out
                  have hns23_1 := NB255_256.out
                  have hms23_0 := NB256_254.out
                  have hms23_1 := NB256_255.out
                  refine skip_ (w1 := ?_) (by rfl) rfl ?_ ?_
                  rotate_left
                  · go_simp
                    rfl
                  refine hK.out _ _ ?_
                  clear hK K
                  refine done_ (done_of HT_.out (by kernel_rfl)) ?_
                  try go_wp2
                  go_roundg k1
                  case measure => have := HK1.out; omega
                  case rel => exact ⟨(wrap64 (x4_1 + 1)), (y259), (.slice Ao22 y259.length co22), (by first | rfl | (simp; done) | (simp [*]; done)), H', ⟨by have := HK1.out; omega⟩, ⟨by (with_reducible repeat (first | apply Kd.R_alloc | apply Kd.R_drewN | apply Kd.R_drew)); exact Kd.R_mono (Kd.R_far (p := ⟨gb256, 0, none⟩) (Kd.R_types HO261.out BK256.out (by decide)) (fun _ hk => hk.2) (.slice Ao22 y259.length co22)) (fun _ hk => trivial)⟩, ⟨by (with_reducible repeat (first | refine blk_drewN ?_ _ | refine blk_drew ?_ | refine blk_alloc ?_ _)); refine blk_far ?_ NB254_256.out _; (with_reducible repeat (first | refine blk_drewN ?_ _ | refine blk_drew ?_ | refine blk_alloc ?_ _)); exact BK254.out⟩, ⟨by (with_reducible repeat (first | refine blk_drewN ?_ _ | refine blk_drew ?_ | refine blk_alloc ?_ _)); refine blk_far ?_ NB255_256.out _; (with_reducible repeat (first | refine blk_drewN ?_ _ | refine blk_drew ?_ | refine blk_alloc ?_ _)); exact BK255.out⟩, ⟨by (with_reducible repeat (first | refine blk_drewN ?_ _ | refine blk_drew ?_ | refine blk_alloc ?_ _)); refine blk_put (cs := #[u257000, .string (a0_1.extract 0 ((ji2) : Int).toNat)]) ?_ 0 _ rfl; (with_reducible repeat (first | refine blk_drewN ?_ _ | refine blk_drew ?_ | refine blk_alloc ?_ _)); exact BK256.out⟩, ⟨by repeat (first | (with_reducible first | exact HB.out | apply below_alloc | apply pw_below_drewN | apply below_drew1 | refine below_set ?_ GE254.out | refine below_set ?_ GE255.out | refine below_set ?_ GE256.out) | exact HB.out)⟩⟩
                · rw [if_neg c16] at H
                  exact absurd H (by simp)
              · rw [if_neg c15] at H
                exact absurd H (by simp)
            · rw [if_neg c14] at H
              have c14b0 : decide (x4_1 < 70) = false := decide_eq_false c14
              clear c14
              simp only [Option.some.injEq, Prod.mk.injEq] at H
              obtain ⟨rfl, rfl⟩ := H
              have hnb24 := NB254_255.out
              have hnc24 := NB255_254.out
              have hnb25 := NB254_256.out
              have hnc25 := NB256_254.out
              have hcz26_0 : wr.cell? ⟨gb254, 0, none⟩ = some (.slice A0_0 l0_0.length c0_0) := (blk_cell BK254.out 0).trans rfl
              have hcz26_1 : wr.cell? ⟨gb254, 1, none⟩ = some (.string a0_1) := (blk_cell BK254.out 1).trans rfl
              have hfz26_0 := blk_frozen BK254.out 0
              have hfz26_1 := blk_frozen BK254.out 1
              have hnb27 := NB256_255.out
              have hnc27 := NB255_256.out
              have hcz28_0 : wr.cell? ⟨gb256, 0, none⟩ = some (u257000) := (blk_cell BK256.out 0).trans rfl
              have hcz28_1 : wr.cell? ⟨gb256, 1, none⟩ = some (.string (a0_1.extract 0 ((ji2) : Int).toNat)) := (blk_cell BK256.out 1).trans rfl
              have hfz28_0 := blk_frozen BK256.out 0
              have hfz28_1 := blk_frozen BK256.out 1
              obtain ⟨Ao29, co29, eo29⟩ := Kd.R_slice HO_257000.out
              subst eo29
              have hcz30_0 : wr.cell? ⟨gb255, 0, none⟩ = some (.slice none 0 0) := (blk_cell BK255.out 0).trans rfl
              have hcz30_1 : wr.cell? ⟨gb255, 1, none⟩ = some (.string (⟨#[]⟩ : ByteArray)) := (blk_cell BK255.out 1).trans rfl
              have hfz30_0 := blk_frozen BK255.out 0
              have hfz30_1 := blk_frozen BK255.out 1
              go_wp2
              refine bodyPost_ret (results_cell_row rfl _ _ gb255 31 #[.slice Ao29 x257000_1.length co29, .string (a0_1.extract 0 ((ji2) : Int).toNat)] (0, 0) _ rfl (by (with_reducible repeat (first | refine blk_drewN ?_ _ | refine blk_drew ?_ | refine blk_alloc ?_ _)); refine blk_put (cs := #[.slice Ao29 x257000_1.length co29, .string (⟨#[]⟩ : ByteArray)]) ?_ 1 _ rfl; (with_reducible repeat (first | refine blk_drewN ?_ _ | refine blk_drew ?_ | refine blk_alloc ?_ _)); refine blk_put (cs := #[.slice none 0 0, .string (⟨#[]⟩ : ByteArray)]) ?_ 0 _ rfl; (with_reducible repeat (first | refine blk_drewN ?_ _ | refine blk_drew ?_ | refine blk_alloc ?_ _)); exact BK255.out) Tryz.underlying31 rfl (by kernel_rfl)) rfl ?_
              exact ⟨_, by first | rfl | (simp [errW_none, errW_some] <;> rfl) | (simp only [← hji2]; first | rfl | (simp [errW_none, errW_some] <;> rfl)) | (simp [*, errW_none, errW_some] <;> rfl), by (with_reducible repeat (first | apply Kd.R_alloc | apply Kd.R_drewN | apply Kd.R_drew)); exact Kd.R_mono (Kd.R_far (p := ⟨gb255, 1, none⟩) (Kd.R_far (p := ⟨gb255, 0, none⟩) (Kd.R_types HO_257000.out BK255.out (by decide)) (fun _ hk => hk.2) (.slice Ao29 x257000_1.length co29)) (fun _ hk => hk.2) (.string (a0_1.extract 0 ((ji2) : Int).toNat))) (fun _ hk => trivial), by repeat (first | (with_reducible first | exact HB.out | apply below_alloc | apply pw_below_drewN | apply below_drew1 | refine below_set ?_ GE254.out | refine below_set ?_ GE255.out | refine below_set ?_ GE256.out) | exact HB.out)⟩
          · rw [if_neg c13] at H
            have c13b0 : decide (x4_1 < (l0_0.length : Int)) = false := decide_eq_false c13
            clear c13
            simp only [Option.some.injEq, Prod.mk.injEq] at H
            obtain ⟨rfl, rfl⟩ := H
            have hnb31 := NB254_255.out
            have hnc31 := NB255_254.out
            have hnb32 := NB254_256.out
            have hnc32 := NB256_254.out
            have hcz33_0 : wr.cell? ⟨gb254, 0, none⟩ = some (.slice A0_0 l0_0.length c0_0) := (blk_cell BK254.out 0).trans rfl
            have hcz33_1 : wr.cell? ⟨gb254, 1, none⟩ = some (.string a0_1) := (blk_cell BK254.out 1).trans rfl
            have hfz33_0 := blk_frozen BK254.out 0
            have hfz33_1 := blk_frozen BK254.out 1
            have hnb34 := NB256_255.out
            have hnc34 := NB255_256.out
            have hcz35_0 : wr.cell? ⟨gb256, 0, none⟩ = some (u257000) := (blk_cell BK256.out 0).trans rfl
            have hcz35_1 : wr.cell? ⟨gb256, 1, none⟩ = some (.string (a0_1.extract 0 ((ji2) : Int).toNat)) := (blk_cell BK256.out 1).trans rfl
            have hfz35_0 := blk_frozen BK256.out 0
            have hfz35_1 := blk_frozen BK256.out 1
            obtain ⟨Ao36, co36, eo36⟩ := Kd.R_slice HO_257000.out
            subst eo36
            have hcz37_0 : wr.cell? ⟨gb255, 0, none⟩ = some (.slice none 0 0) := (blk_cell BK255.out 0).trans rfl
            have hcz37_1 : wr.cell? ⟨gb255, 1, none⟩ = some (.string (⟨#[]⟩ : ByteArray)) := (blk_cell BK255.out 1).trans rfl
            have hfz37_0 := blk_frozen BK255.out 0
            have hfz37_1 := blk_frozen BK255.out 1
            go_wp2
            refine bodyPost_ret (results_cell_row rfl _ _ gb255 31 #[.slice Ao36 x257000_1.length co36, .string (a0_1.extract 0 ((ji2) : Int).toNat)] (0, 0) _ rfl (by (with_reducible repeat (first | refine blk_drewN ?_ _ | refine blk_drew ?_ | refine blk_alloc ?_ _)); refine blk_put (cs := #[.slice Ao36 x257000_1.length co36, .string (⟨#[]⟩ : ByteArray)]) ?_ 1 _ rfl; (with_reducible repeat (first | refine blk_drewN ?_ _ | refine blk_drew ?_ | refine blk_alloc ?_ _)); refine blk_put (cs := #[.slice none 0 0, .string (⟨#[]⟩ : ByteArray)]) ?_ 0 _ rfl; (with_reducible repeat (first | refine blk_drewN ?_ _ | refine blk_drew ?_ | refine blk_alloc ?_ _)); exact BK255.out) Tryz.underlying31 rfl (by kernel_rfl)) rfl ?_
            exact ⟨_, by first | rfl | (simp [errW_none, errW_some] <;> rfl) | (simp only [← hji2]; first | rfl | (simp [errW_none, errW_some] <;> rfl)) | (simp [*, errW_none, errW_some] <;> rfl), by (with_reducible repeat (first | apply Kd.R_alloc | apply Kd.R_drewN | apply Kd.R_drew)); exact Kd.R_mono (Kd.R_far (p := ⟨gb255, 1, none⟩) (Kd.R_far (p := ⟨gb255, 0, none⟩) (Kd.R_types HO_257000.out BK255.out (by decide)) (fun _ hk => hk.2) (.slice Ao36 x257000_1.length co36)) (fun _ hk => hk.2) (.string (a0_1.extract 0 ((ji2) : Int).toNat))) (fun _ hk => trivial), by repeat (first | (with_reducible first | exact HB.out | apply below_alloc | apply pw_below_drewN | apply below_drew1 | refine below_set ?_ GE254.out | refine below_set ?_ GE255.out | refine below_set ?_ GE256.out) | exact HB.out)⟩
    · rw [if_neg c4] at H
      exact absurd H (by simp)
  · rw [if_neg c3] at H
    exact absurd H (by simp)

-- NOT PRINTED: function 26 (article_Article_Check)

-- NOT PRINTED: function 7 (bulletinlaw15_ArticlePrints)

-- NOT PRINTED: function 27 (article_Strip)

/-! ### bulletinref15_Strip: function 28 -/
-- NOT PRINTED: function 8 (bulletinlaw15_ArticleStrips)

-- NOT PRINTED: function 54 (strings_Contains)

/-! ### stringslite_HasSuffix: function 81 -/
/-! ### strings_HasSuffix: function 55 -/
-- NOT PRINTED: function 128 (utf8_RuneCountInString)

-- NOT PRINTED: function 129 (bytealg_CountString)

-- NOT PRINTED: function 105 (strings_Count)

-- NOT PRINTED: function 82 (strings_Replace)

-- NOT PRINTED: function 56 (strings_ReplaceAll)

-- NOT PRINTED: function 29 (article_ToLine)

end Go.Proofs.YtfeciafdioepiaaGreatDoor.PA
