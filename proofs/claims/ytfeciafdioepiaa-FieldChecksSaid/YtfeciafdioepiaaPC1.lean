-- PRINTED by print.py (a twelfth state) out of the translation. Not trusted: Lean checks it.
import Derived.Test.YtfeciafdioepiaaPA2
import Derived.Test.YtfeciafdioepiaaPA3
import Derived.Test.YtfeciafdioepiaaPA5
import Derived.Test.YtfeciafdioepiaaPB1
import Derived.Test.YtfeciafdioepiaaPC0
namespace Go.Proofs.Ytfeciafdioepiaa.PC
open Go.Proofs.Ytfeciafdioepiaa.PA
open Go.Proofs.Ytfeciafdioepiaa
open Go.RowKit Go.Proofs.YtfeciafdioepiaaW.PrintWords Go.Proofs.YtfeciafdioepiaaW.PrintLast Go.Proofs.YtfeciafdioepiaaW.PrintMore
attribute [local go_sem] max2_int min2_int max_two min_two max_three min_three max_four min_four   -- for this text's walks alone
set_option linter.unusedVariables false
set_option linter.unusedSimpArgs false

/-! ### bulletinlaw09_FieldNames: function 3 -/
def bulletinlaw09_FieldNames.f (k : Nat) (a0 : ByteArray) : Option (Bool) := if 0 ≤ (mn (a0.size : Int) 100) then (if (mn (a0.size : Int) 100) ≤ (a0.size : Int) then ((GV.known.f).bind fun t101 => (if t101 = true then ((PA.field_ValidName.f k (a0.extract 0 ((mn (a0.size : Int) 100) : Int).toNat)).bind fun t102 => ((PA.bulletinref09_ValidName.f k (a0.extract 0 ((mn (a0.size : Int) 100) : Int).toNat)).bind fun t103 => (some (t102 == t103)))) else (some false))) else (none)) else (none)
theorem bulletinlaw09_FieldNames.mono : ∀ a0 k, LeO (bulletinlaw09_FieldNames.f k a0) (bulletinlaw09_FieldNames.f (k + 1) a0) := by
  intro a0 k
  unfold bulletinlaw09_FieldNames.f
  repeat' first
      | (with_reducible exact PA.bulletinref09_ValidName.mono _ _)
      | (with_reducible exact PA.field_ValidName.mono _ _)
      | (with_reducible exact LeO.refl _)
      | (with_reducible exact LeO.none _)
      | (with_reducible refine LeO.ite ?_ ?_)
      | (with_reducible refine LeO.bind ?_ (fun _ => ?_))
      | exact PA.bulletinref09_ValidName.mono _ _
      | exact PA.field_ValidName.mono _ _
      | exact LeO.none _
      | refine LeO.ite ?_ ?_
      | refine LeO.bind ?_ (fun _ => ?_)
set_option maxHeartbeats 8000000 in
set_option maxRecDepth 100000 in
theorem bulletinlaw09_FieldNames.calls (k : Nat) (a0 : ByteArray) (r : Bool) (w : World) (hgm : Gm w) (h : bulletinlaw09_FieldNames.f k a0 = some r) :
    Calls Try.prog 3 #[.string a0] w fun e w' => e = .returned (.bool r) ∧ Below w.heap.size w w' := by
  have HGM := Aside0.mk hgm
  clear hgm
  have HB := Aside0.mk (Below.refl w.heap.size w)
  have H : (if 0 ≤ (mn (a0.size : Int) 100) then (if (mn (a0.size : Int) 100) ≤ (a0.size : Int) then ((GV.known.f).bind fun t101 => (if t101 = true then ((PA.field_ValidName.f k (a0.extract 0 ((mn (a0.size : Int) 100) : Int).toNat)).bind fun t102 => ((PA.bulletinref09_ValidName.f k (a0.extract 0 ((mn (a0.size : Int) 100) : Int).toNat)).bind fun t103 => (some (t102 == t103)))) else (some false))) else (none)) else (none)) = some r := h
  clear h
  obtain ⟨ji2, hji2⟩ : ∃ j_ : Int, (mn (a0.size : Int) 100) = j_ := ⟨_, rfl⟩
  replace H : (if 0 ≤ (ji2) then (if (ji2) ≤ (a0.size : Int) then ((GV.known.f).bind fun t101 => (if t101 = true then ((PA.field_ValidName.f k (a0.extract 0 ((ji2) : Int).toNat)).bind fun t102 => ((PA.bulletinref09_ValidName.f k (a0.extract 0 ((ji2) : Int).toNat)).bind fun t103 => (some (t102 == t103)))) else (some false))) else (none)) else (none)) = some r := by first | (rw [hji2] at H; exact H) | (simp only [hji2] at H ⊢; exact H)
  (try (have hji2h : ji2 ≤ 100 := by (rw [← hji2]; unfold mn; (repeat' split) <;> omega)))
  (try (have hji2g : ji2 ≤ 64 := by omega))
  (try (have hji2l : 0 ≤ ji2 := by (rw [← hji2]; unfold mn; (repeat' split) <;> omega)))
  (try (have hji2m : 0 ≤ ji2 := by omega))
  have hji2_ : (if 100 < (a0.size : Int) then 100 else (a0.size : Int)) = ji2 := hji2
  by_cases c3 : 0 ≤ (ji2)
  · rw [if_pos c3] at H
    have c3b0 := eq_true c3
    have c3b1 : decide (0 ≤ (ji2)) = true := decide_eq_true c3
    clear c3
    by_cases c4 : (ji2) ≤ (a0.size : Int)
    · rw [if_pos c4] at H
      have c4b0 := eq_true c4
      have c4b1 : decide ((ji2) ≤ (a0.size : Int)) = true := decide_eq_true c4
      clear c4
      replace H := Option.bind_eq_some_iff.mp H
      obtain ⟨t101, A50, H⟩ := H
      replace H : (if t101 = true then ((PA.field_ValidName.f k (a0.extract 0 ((ji2) : Int).toNat)).bind fun t102 => ((PA.bulletinref09_ValidName.f k (a0.extract 0 ((ji2) : Int).toNat)).bind fun t103 => (some (t102 == t103)))) else (some false)) = some r := H
      have A5 := Aside0.mk A50
      clear A50
      by_cases c6 : t101 = true
      · subst c6
        have H1 : ((PA.field_ValidName.f k (a0.extract 0 ((ji2) : Int).toNat)).bind fun t102 => ((PA.bulletinref09_ValidName.f k (a0.extract 0 ((ji2) : Int).toNat)).bind fun t103 => (some (t102 == t103)))) = some r := by rw [if_pos rfl] at H; exact H
        clear H
        have H := H1
        clear H1
        replace H := Option.bind_eq_some_iff.mp H
        obtain ⟨t102, A70, H⟩ := H
        replace H : ((PA.bulletinref09_ValidName.f k (a0.extract 0 ((ji2) : Int).toNat)).bind fun t103 => (some (t102 == t103))) = some r := H
        have A7 := Aside0.mk A70
        clear A70
        replace H := Option.bind_eq_some_iff.mp H
        obtain ⟨t103, A80, H⟩ := H
        replace H : (some (t102 == t103)) = some r := H
        have A8 := Aside0.mk A80
        clear A80
        obtain rfl := Option.some.inj H
        go_enter Try.func3, Try.ntmps3
        go_wp2_with (first | ((with_reducible refine gate_callee (f := 11) rfl ?_); refine goesL_ (some 8) rfl rfl Try.func11 (by kernel_rfl) rfl #[] rfl (by (try simp only [List.map_toArray, List.map_cons, List.map_nil]); first | done | rfl | (simp only [List.length_drop, List.length_take]; rfl)) ?_; (with_reducible refine (GV.known.calls  true _ ?side1 A5.out).mono ?_); (case side1 => exact gm_at HGM.out (by repeat (first | (with_reducible first | exact HB.out | apply below_alloc | apply pw_below_drewN | apply below_drew1) | exact HB.out))); rintro e w9 ⟨rfl, hb⟩; refine ⟨_, rfl, ?_⟩; have n0_ := Aside0.mk (below_step (by repeat (first | (with_reducible first | exact HB.out | apply below_alloc | apply pw_below_drewN | apply below_drew1) | exact HB.out)) hb); clear HB; have HB := n0_; clear n0_; (try clear hb); (try clear hb2); (try clear hk); (try clear hi)) | (go_at_call 12; (with_reducible refine (PA.field_ValidName.calls k (a0.extract 0 ((ji2) : Int).toNat) t102 _ A7.out).mono ?_); rintro e w' ⟨rfl, ⟨nd, rfl⟩⟩) | (go_at_call 13; (with_reducible refine (PA.bulletinref09_ValidName.calls k (a0.extract 0 ((ji2) : Int).toNat) t103 _ A8.out).mono ?_); rintro e w' ⟨rfl, ⟨nd, rfl⟩⟩))
        go_ret
        exact ⟨by first | rfl | (simp [errW_none, errW_some] <;> rfl) | (simp only [← hji2]; first | rfl | (simp [errW_none, errW_some] <;> rfl)) | (simp [*, errW_none, errW_some] <;> rfl), by repeat (first | (with_reducible first | exact HB.out | apply below_alloc | apply pw_below_drewN | apply below_drew1) | exact HB.out)⟩
      · replace c6 := Bool.eq_false_iff.mpr c6
        subst c6
        have H1 : (some false) = some r := by rw [if_neg (show ¬ (false = true) by decide)] at H; exact H
        clear H
        have H := H1
        clear H1
        obtain rfl := Option.some.inj H
        go_enter Try.func3, Try.ntmps3
        go_wp2_with (first | ((with_reducible refine gate_callee (f := 11) rfl ?_); refine goesL_ (some 8) rfl rfl Try.func11 (by kernel_rfl) rfl #[] rfl (by (try simp only [List.map_toArray, List.map_cons, List.map_nil]); first | done | rfl | (simp only [List.length_drop, List.length_take]; rfl)) ?_; (with_reducible refine (GV.known.calls  false _ ?side1 A5.out).mono ?_); (case side1 => exact gm_at HGM.out (by repeat (first | (with_reducible first | exact HB.out | apply below_alloc | apply pw_below_drewN | apply below_drew1) | exact HB.out))); rintro e w10 ⟨rfl, hb⟩; refine ⟨_, rfl, ?_⟩; have n0_ := Aside0.mk (below_step (by repeat (first | (with_reducible first | exact HB.out | apply below_alloc | apply pw_below_drewN | apply below_drew1) | exact HB.out)) hb); clear HB; have HB := n0_; clear n0_; (try clear hb); (try clear hb2); (try clear hk); (try clear hi)))
        go_ret
        exact ⟨by first | rfl | (simp [errW_none, errW_some] <;> rfl) | (simp only [← hji2]; first | rfl | (simp [errW_none, errW_some] <;> rfl)) | (simp [*, errW_none, errW_some] <;> rfl), by repeat (first | (with_reducible first | exact HB.out | apply below_alloc | apply pw_below_drewN | apply below_drew1) | exact HB.out)⟩
    · rw [if_neg c4] at H
      exact absurd H (by simp)
  · rw [if_neg c3] at H
    exact absurd H (by simp)

/-- THE ONE PURE STATEMENT of bulletinlaw09_FieldNames: yours. -/
def bulletinlaw09_FieldNames.Pure : Prop := ∀ (a0 : ByteArray), a0.size ≤ 140737488351232 → ∃ k, bulletinlaw09_FieldNames.f k a0 = some true
theorem bulletinlaw09_FieldNames.walk (P : bulletinlaw09_FieldNames.Pure) (a0 : ByteArray) (w : World) (hgm : Gm w) (w0 : a0.size ≤ 140737488351232) :
    Calls Try.prog 3 #[.string a0] w fun e w' => e = .returned (.bool true) ∧ Below w.heap.size w w' := by
  obtain ⟨k, h⟩ := P a0 w0
  refine (bulletinlaw09_FieldNames.calls k a0 true w hgm h).mono ?_
  rintro e w' ⟨rfl, hd⟩
  exact ⟨rfl, hd⟩

/-! ### bulletinlaw09_FieldChecks: function 4 -/
def bulletinlaw09_FieldChecks.j0 : Nat → ByteArray → Int → Bool → ByteArray → ByteArray → Option (Bool)
  | 0, _, _, _, _, _ => none
  | k + 1, x4, x6, x32, x105000, x105001 => if x32 = true then (some false) else (if x6 = 0 then ((GV.known.f).bind fun t117 => (if t117 = true then ((PA.bulletinref09_Fold.f k x105000 x105001).bind fun t118 => (some (x4.toList == t118.toList))) else (some false))) else ((GV.known.f).bind fun t119 => (if t119 = true then (some (x4.toList == ([] : List UInt8))) else (some false))))
def bulletinlaw09_FieldChecks.f (k : Nat) (a0_0 : ByteArray) (a0_1 : ByteArray) : Option (Bool) := (PA.bulletinlaw09_cut.f k (([(⟨a0_0, a0_1⟩ : S25)] : List (S25)))).bind fun t108 => (if 0 < (t108.length : Int) then ((GV.Fold.f k ((rd_T25 t108 0).f0) ((rd_T25 t108 0).f1)).bind fun bt113 => ((PA.bulletinref09_Check.f k ((rd_T25 t108 0).f0) ((rd_T25 t108 0).f1)).bind fun t115 => ((PB.field_Field_Check.f k ((rd_T25 t108 0).f0) ((rd_T25 t108 0).f1)).bind fun t116 => (if t116 = t115 then (bulletinlaw09_FieldChecks.j0 k bt113.1 t115 (bt113.2 != t115) ((rd_T25 t108 0).f0) ((rd_T25 t108 0).f1)) else (bulletinlaw09_FieldChecks.j0 k bt113.1 t115 true ((rd_T25 t108 0).f0) ((rd_T25 t108 0).f1)))))) else (none))
theorem bulletinlaw09_FieldChecks.mono_l : ∀ k, (∀ y0 y1 y2 y3 y4, LeO (bulletinlaw09_FieldChecks.j0 k y0 y1 y2 y3 y4) (bulletinlaw09_FieldChecks.j0 (k + 1) y0 y1 y2 y3 y4))
  | 0 => fun _ _ _ _ _ r h => by simp [bulletinlaw09_FieldChecks.j0] at h
  | k + 1 => by
    have ih0 := bulletinlaw09_FieldChecks.mono_l k
    · intro y0 y1 y2 y3 y4
      unfold bulletinlaw09_FieldChecks.j0
      repeat' first
      | (with_reducible exact ih0 _ _ _ _ _)
      | (with_reducible exact GV.Fold.mono _ _ _)
      | (with_reducible exact PA.bulletinlaw09_cut.mono _ _)
      | (with_reducible exact PA.bulletinref09_Check.mono _ _ _)
      | (with_reducible exact PA.bulletinref09_Fold.mono _ _ _)
      | (with_reducible exact PB.field_Field_Check.mono _ _ _)
      | (with_reducible exact LeO.refl _)
      | (with_reducible exact LeO.none _)
      | (with_reducible refine LeO.ite ?_ ?_)
      | (with_reducible refine LeO.bind ?_ (fun _ => ?_))
      | exact ih0 _ _ _ _ _
      | exact GV.Fold.mono _ _ _
      | exact PA.bulletinlaw09_cut.mono _ _
      | exact PA.bulletinref09_Check.mono _ _ _
      | exact PA.bulletinref09_Fold.mono _ _ _
      | exact PB.field_Field_Check.mono _ _ _
      | exact LeO.none _
      | refine LeO.ite ?_ ?_
      | refine LeO.bind ?_ (fun _ => ?_)
theorem bulletinlaw09_FieldChecks.mono : ∀ a0 a1 k, LeO (bulletinlaw09_FieldChecks.f k a0 a1) (bulletinlaw09_FieldChecks.f (k + 1) a0 a1) := by
  intro a0 a1 k
  have ih0 := bulletinlaw09_FieldChecks.mono_l k
  unfold bulletinlaw09_FieldChecks.f
  repeat' first
      | (with_reducible exact ih0 _ _ _ _ _)
      | (with_reducible exact GV.Fold.mono _ _ _)
      | (with_reducible exact PA.bulletinlaw09_cut.mono _ _)
      | (with_reducible exact PA.bulletinref09_Check.mono _ _ _)
      | (with_reducible exact PA.bulletinref09_Fold.mono _ _ _)
      | (with_reducible exact PB.field_Field_Check.mono _ _ _)
      | (with_reducible exact LeO.refl _)
      | (with_reducible exact LeO.none _)
      | (with_reducible refine LeO.ite ?_ ?_)
      | (with_reducible refine LeO.bind ?_ (fun _ => ?_))
      | exact ih0 _ _ _ _ _
      | exact GV.Fold.mono _ _ _
      | exact PA.bulletinlaw09_cut.mono _ _
      | exact PA.bulletinref09_Check.mono _ _ _
      | exact PA.bulletinref09_Fold.mono _ _ _
      | exact PB.field_Field_Check.mono _ _ _
      | exact LeO.none _
      | refine LeO.ite ?_ ?_
      | refine LeO.bind ?_ (fun _ => ?_)
set_option maxHeartbeats 8000000 in
set_option maxRecDepth 100000 in
theorem bulletinlaw09_FieldChecks.calls (k : Nat) (a0_0 : ByteArray) (a0_1 : ByteArray) (r : Bool) (w : World) (hgm : Gm w) (h : bulletinlaw09_FieldChecks.f k a0_0 a0_1 = some r) :
    Calls Try.prog 4 #[.agg #[.string a0_0, .string a0_1]] w fun e w' => e = .returned (.bool r) ∧ Below w.heap.size w w' := by
  have hu25 := Try.underlying25
  have hu28 := Try.underlying28
  have HGM := Aside0.mk hgm
  clear hgm
  have HB := Aside0.mk (Below.refl w.heap.size w)
  have H : ((PA.bulletinlaw09_cut.f k (([(⟨a0_0, a0_1⟩ : S25)] : List (S25)))).bind fun t108 => (if 0 < (t108.length : Int) then ((GV.Fold.f k ((rd_T25 t108 0).f0) ((rd_T25 t108 0).f1)).bind fun bt113 => ((PA.bulletinref09_Check.f k ((rd_T25 t108 0).f0) ((rd_T25 t108 0).f1)).bind fun t115 => ((PB.field_Field_Check.f k ((rd_T25 t108 0).f0) ((rd_T25 t108 0).f1)).bind fun t116 => (if t116 = t115 then (bulletinlaw09_FieldChecks.j0 k bt113.1 t115 (bt113.2 != t115) ((rd_T25 t108 0).f0) ((rd_T25 t108 0).f1)) else (bulletinlaw09_FieldChecks.j0 k bt113.1 t115 true ((rd_T25 t108 0).f0) ((rd_T25 t108 0).f1)))))) else (none))) = some r := h
  clear h
  obtain ⟨y105, hy105⟩ : ∃ y_ : List (S25), y_ = (([(⟨a0_0, a0_1⟩ : S25)] : List (S25))) := ⟨_, rfl⟩
  replace H : ((PA.bulletinlaw09_cut.f k y105).bind fun t108 => (if 0 < (t108.length : Int) then ((GV.Fold.f k ((rd_T25 t108 0).f0) ((rd_T25 t108 0).f1)).bind fun bt113 => ((PA.bulletinref09_Check.f k ((rd_T25 t108 0).f0) ((rd_T25 t108 0).f1)).bind fun t115 => ((PB.field_Field_Check.f k ((rd_T25 t108 0).f0) ((rd_T25 t108 0).f1)).bind fun t116 => (if t116 = t115 then (bulletinlaw09_FieldChecks.j0 k bt113.1 t115 (bt113.2 != t115) ((rd_T25 t108 0).f0) ((rd_T25 t108 0).f1)) else (bulletinlaw09_FieldChecks.j0 k bt113.1 t115 true ((rd_T25 t108 0).f0) ((rd_T25 t108 0).f1)))))) else (none))) = some r := by first | (rw [hy105]; with_reducible exact H) | (have H2_ := (Option.bind_some _ _).symm.trans H; rw [hy105]; with_reducible exact H2_) | (have H2_ := (Option.bind_some _ _).symm.trans H; with_reducible exact H2_) | with_reducible exact H | (rw [hy105]; exact H) | exact H
  have Ny105 := Aside0.mk hy105
  clear hy105
  replace H := Option.bind_eq_some_iff.mp H
  obtain ⟨t108, A20, H⟩ := H
  replace H : (if 0 < (t108.length : Int) then ((GV.Fold.f k ((rd_T25 t108 0).f0) ((rd_T25 t108 0).f1)).bind fun bt113 => ((PA.bulletinref09_Check.f k ((rd_T25 t108 0).f0) ((rd_T25 t108 0).f1)).bind fun t115 => ((PB.field_Field_Check.f k ((rd_T25 t108 0).f0) ((rd_T25 t108 0).f1)).bind fun t116 => (if t116 = t115 then (bulletinlaw09_FieldChecks.j0 k bt113.1 t115 (bt113.2 != t115) ((rd_T25 t108 0).f0) ((rd_T25 t108 0).f1)) else (bulletinlaw09_FieldChecks.j0 k bt113.1 t115 true ((rd_T25 t108 0).f0) ((rd_T25 t108 0).f1)))))) else (none)) = some r := H
  have A2 := Aside0.mk A20
  clear A20
  by_cases c3 : 0 < (t108.length : Int)
  · rw [if_pos c3] at H
    have c3b0 : decide (0 < (t108.length : Int)) = true := decide_eq_true c3
    have c3b1 : decide (0 < t108.length) = true := decide_eq_true (by omega)
    clear c3
    replace H := Option.bind_eq_some_iff.mp H
    obtain ⟨⟨t113, t114⟩, A40, H⟩ := H
    replace H : ((PA.bulletinref09_Check.f k ((rd_T25 t108 0).f0) ((rd_T25 t108 0).f1)).bind fun t115 => ((PB.field_Field_Check.f k ((rd_T25 t108 0).f0) ((rd_T25 t108 0).f1)).bind fun t116 => (if t116 = t115 then (bulletinlaw09_FieldChecks.j0 k t113 t115 (t114 != t115) ((rd_T25 t108 0).f0) ((rd_T25 t108 0).f1)) else (bulletinlaw09_FieldChecks.j0 k t113 t115 true ((rd_T25 t108 0).f0) ((rd_T25 t108 0).f1))))) = some r := H
    have A4 := Aside0.mk A40
    clear A40
    replace H := Option.bind_eq_some_iff.mp H
    obtain ⟨t115, A50, H⟩ := H
    replace H : ((PB.field_Field_Check.f k ((rd_T25 t108 0).f0) ((rd_T25 t108 0).f1)).bind fun t116 => (if t116 = t115 then (bulletinlaw09_FieldChecks.j0 k t113 t115 (t114 != t115) ((rd_T25 t108 0).f0) ((rd_T25 t108 0).f1)) else (bulletinlaw09_FieldChecks.j0 k t113 t115 true ((rd_T25 t108 0).f0) ((rd_T25 t108 0).f1)))) = some r := H
    have A5 := Aside0.mk A50
    clear A50
    have HC6 := Aside0.mk H
    clear H
    go_enter Try.func4, Try.ntmps4
    go_upto_region 5 with (first | ((with_reducible refine gate_dst (N := 1) rfl ?_); refine box_event ?hg (N := 1) ?hd (cs := #[.string a0_0, .string a0_1]) (t := 25) ?hr ?_; (case hd => rfl); (case hg => rfl); (case hr => first | (go_simp; done) | (go_simp; rfl)); intro gb104 hg w7 hbox hb; have n0_ := Aside0.mk (below_step (by repeat (first | (with_reducible first | exact HB.out | apply below_alloc | apply pw_below_drewN | apply below_drew1) | exact HB.out)) hb); have n1_ := Aside0.mk (hbox); have n2_ := Aside0.mk ((by rw [hg]; exact (below_size (by repeat (first | (with_reducible first | exact HB.out | apply below_alloc | apply pw_below_drewN | apply below_drew1) | exact HB.out))) : w.heap.size ≤ gb104)); have n3_ := Aside0.mk ((by rw [hg]; exact (below_size (by repeat (first | (with_reducible first | exact HB.out | apply below_alloc | apply pw_below_drewN | apply below_drew1) | exact HB.out))) : w.heap.size ≤ gb104)); clear HB; have HB := n0_; have BK104 := n1_; have GW104 := n2_; have GE104 := n3_; clear n0_ n1_ n2_ n3_; clear hb hbox hg; have hcz8_0 : w7.cell? ⟨gb104, 0, none⟩ = some (.string a0_0) := (blk_cell BK104.out 0).trans rfl; have hcz8_1 : w7.cell? ⟨gb104, 1, none⟩ = some (.string a0_1) := (blk_cell BK104.out 1).trans rfl; have hfz8_0 := blk_frozen BK104.out 0; have hfz8_1 := blk_frozen BK104.out 1) | ((with_reducible refine gate_dst (N := 8) rfl ?_); refine Kd.R_lit k25 _ 25 ?hg (N := 8) ?hd (xs := ([(⟨a0_0, a0_1⟩ : S25)] : List (S25))) (inner := [.string a0_0, .string a0_1]) (ok := fun _ => True) (okp := fun _ => True) ?hr ?hp (fun _ hk => hk) trivial (Below.refl _ _) (Nat.le_refl _) (by simp) ?_; (case hd => rfl); (case hg => rfl); (case hr => first | (go_simp; done) | (go_simp; rfl)); (case hp => exact (Reps.c2 (show Kd.M k25 _ _ _ (⟨a0_0, a0_1⟩ : S25) [.string a0_0, .string a0_1] from (k25_mkM _ _ _ (⟨a0_0, a0_1⟩ : S25) )) (Reps.none _ _))); intro v106 w9 ho10 hb hg_ hnew_; clear hg_ hnew_; (first | rw [← Ny105.out] at ho10 | (simp only [Int.reduceToNat] at ho10; rw [← Ny105.out] at ho10)); have n0_ := Aside0.mk (Kd.R_lower (Kd.R_newB ho10 (g := gb104) (o := .cells #[.string a0_0, .string a0_1] 25 (0, 0)) (by (with_reducible repeat (first | refine blk_drewN ?_ _ | refine blk_drew ?_ | refine blk_alloc ?_ _)); exact BK104.out)) (below_size (by repeat (first | (with_reducible first | exact HB.out | apply below_alloc | apply pw_below_drewN | apply below_drew1 | refine below_set ?_ GE104.out) | exact HB.out)))); have n1_ := Aside0.mk (blk_below (g := gb104) (o := .cells #[.string a0_0, .string a0_1] 25 (0, 0)) (by (with_reducible repeat (first | refine blk_drewN ?_ _ | refine blk_drew ?_ | refine blk_alloc ?_ _)); exact BK104.out) hb); have n2_ := Aside0.mk (below_step (by repeat (first | (with_reducible first | exact HB.out | apply below_alloc | apply pw_below_drewN | apply below_drew1 | refine below_set ?_ GE104.out) | exact HB.out)) hb); clear BK104; clear HB; have HO107 := n0_; have BK104 := n1_; have HB := n2_; clear n0_ n1_ n2_; clear hb ho10; obtain ⟨Ao11, co11, eo11⟩ := Kd.R_slice HO107.out; subst eo11) | ((with_reducible refine gate_callee (f := 14) rfl ?_); refine goesL_ (some 9) rfl rfl Try.func14 (by kernel_rfl) rfl #[.slice Ao11 y105.length co11] rfl (by (try simp only [List.map_toArray, List.map_cons, List.map_nil]); first | done | rfl | (simp only [List.length_drop, List.length_take]; rfl)) ?_; (with_reducible refine (PA.bulletinlaw09_cut.calls k _ _ y105 t108 _ ?side1 ?side2 A2.out).mono ?_); (case side1 => repeat (first | exact (Kd.R_reads' HO107.out).2.2 | (with_reducible refine Kd.C_alloc ?_ _) | (with_reducible refine Kd.C_drewN ?_ _) | (with_reducible refine Kd.C_drew ?_))); (case side2 => exact (Kd.R_reads' HO107.out).2.1); rintro e w12 ⟨v109, rfl, ho0, hb⟩; refine ⟨_, rfl, ?_⟩; have n0_ := Aside0.mk (Kd.R_elder' (by (with_reducible repeat (first | apply Kd.R_alloc | apply Kd.R_drewN | apply Kd.R_drew)); exact HO107.out) (Kd.R_base ho0) hb); have n1_ := Aside0.mk (Kd.R_lower (Kd.R_newB (Kd.R_new' ho0 (Kd.R_lt (by (with_reducible repeat (first | apply Kd.R_alloc | apply Kd.R_drewN | apply Kd.R_drew)); exact HO107.out))) (g := gb104) (o := .cells #[.string a0_0, .string a0_1] 25 (0, 0)) (by (with_reducible repeat (first | refine blk_drewN ?_ _ | refine blk_drew ?_ | refine blk_alloc ?_ _)); exact BK104.out)) (below_size (by repeat (first | (with_reducible first | exact HB.out | apply below_alloc | apply pw_below_drewN | apply below_drew1 | refine below_set ?_ GE104.out) | exact HB.out)))); have n2_ := Aside0.mk (blk_below (g := gb104) (o := .cells #[.string a0_0, .string a0_1] 25 (0, 0)) (by (with_reducible repeat (first | refine blk_drewN ?_ _ | refine blk_drew ?_ | refine blk_alloc ?_ _)); exact BK104.out) hb); have n3_ := Aside0.mk (below_step (by repeat (first | (with_reducible first | exact HB.out | apply below_alloc | apply pw_below_drewN | apply below_drew1 | refine below_set ?_ GE104.out) | exact HB.out)) hb); clear HO107; clear BK104; clear HB; have HO107 := n0_; have HO110 := n1_; have BK104 := n2_; have HB := n3_; clear n0_ n1_ n2_ n3_; (try clear hb); (try clear hb2); (try clear hk); (try clear hi); (try clear ho0); obtain ⟨Ao13, co13, eo13⟩ := Kd.R_slice HO110.out; subst eo13; have p111 : 0 ≤ (0 : Int) := (by omega); have q111 : 0 < (t108.length : Int) := of_decide_eq_true (by first | (with_reducible assumption) | assumption); obtain ⟨ad111, e111, hx111_0, hx111_1⟩ := at_T25 (Kd.R_reads' HO110.out).2.2 0 p111 q111; cases e111; have qi111 : (0 < t108.length) = True := eq_true (by omega); (try rw [show ((0 : Int)).toNat = 0 from rfl] at hx111_0); (try rw [show 0 * 2 = 0 from rfl] at hx111_0); (try rw [Addr.add_zero'] at hx111_0); (try rw [show ((0 : Int)).toNat = 0 from rfl] at hx111_1); (try rw [show 0 * 2 = 0 from rfl] at hx111_1); (try rw [Addr.add_zero'] at hx111_1); replace p111 := eq_true p111; replace q111 := eq_true q111; have hcz14_0 : w12.cell? ⟨gb104, 0, none⟩ = some (.string a0_0) := (blk_cell BK104.out 0).trans rfl; have hcz14_1 : w12.cell? ⟨gb104, 1, none⟩ = some (.string a0_1) := (blk_cell BK104.out 1).trans rfl; have hfz14_0 := blk_frozen BK104.out 0; have hfz14_1 := blk_frozen BK104.out 1) | ((with_reducible refine gate_dst (N := 3) rfl ?_); refine box_event ?hg (N := 3) ?hd (cs := #[.string (⟨#[]⟩ : ByteArray), .string (⟨#[]⟩ : ByteArray)]) (t := 28) ?hr ?_; (case hd => rfl); (case hg => rfl); (case hr => first | (go_simp; done) | (go_simp; rfl)); intro gb112 hg w15 hbox hb; have n0_ := Aside0.mk (Kd.R_below (by (with_reducible repeat (first | apply Kd.R_alloc | apply Kd.R_drewN | apply Kd.R_drew)); exact (Kd.R_mono (Kd.R_far (p := ⟨gb104, 1, none⟩) (Kd.R_far (p := ⟨gb104, 0, none⟩) (Kd.R_mono HO107.out (fun k_ hk => (⟨hk, hk.1.2⟩ : _ ∧ k_ ≠ gb104))) (fun _ hk => hk.2) (.string ((rd_T25 t108 0).f0))) (fun _ hk => hk.2) (.string ((rd_T25 t108 0).f1))) (fun _ h_ => h_.1))) hb); have n1_ := Aside0.mk (Kd.R_below (by (with_reducible repeat (first | apply Kd.R_alloc | apply Kd.R_drewN | apply Kd.R_drew)); exact (Kd.R_mono (Kd.R_far (p := ⟨gb104, 1, none⟩) (Kd.R_far (p := ⟨gb104, 0, none⟩) (Kd.R_mono HO110.out (fun k_ hk => (⟨hk, hk.2⟩ : _ ∧ k_ ≠ gb104))) (fun _ hk => hk.2) (.string ((rd_T25 t108 0).f0))) (fun _ hk => hk.2) (.string ((rd_T25 t108 0).f1))) (fun _ h_ => h_.1))) hb); have n2_ := Aside0.mk (blk_below (g := gb104) (o := .cells #[.string ((rd_T25 t108 0).f0), .string ((rd_T25 t108 0).f1)] 25 (0, 0)) (by (with_reducible repeat (first | refine blk_drewN ?_ _ | refine blk_drew ?_ | refine blk_alloc ?_ _)); refine blk_put (cs := #[.string ((rd_T25 t108 0).f0), .string a0_1]) ?_ 1 _ rfl; (with_reducible repeat (first | refine blk_drewN ?_ _ | refine blk_drew ?_ | refine blk_alloc ?_ _)); refine blk_put (cs := #[.string a0_0, .string a0_1]) ?_ 0 _ rfl; (with_reducible repeat (first | refine blk_drewN ?_ _ | refine blk_drew ?_ | refine blk_alloc ?_ _)); exact BK104.out) hb); have n3_ := Aside0.mk (below_step (by repeat (first | (with_reducible first | exact HB.out | apply below_alloc | apply pw_below_drewN | apply below_drew1 | refine below_set ?_ GE104.out) | exact HB.out)) hb); have n4_ := Aside0.mk (hbox); have n5_ := Aside0.mk ((by rw [hg]; exact (below_size (by repeat (first | (with_reducible first | exact HB.out | apply below_alloc | apply pw_below_drewN | apply below_drew1 | refine below_set ?_ GE104.out) | exact HB.out))) : w.heap.size ≤ gb112)); have n6_ := Aside0.mk ((by rw [hg]; exact (below_size (by repeat (first | (with_reducible first | exact HB.out | apply below_alloc | apply pw_below_drewN | apply below_drew1 | refine below_set ?_ GE104.out) | exact HB.out))) : w.heap.size ≤ gb112)); have n7_ := Aside0.mk ((by rw [hg]; exact Nat.ne_of_lt (blk_lt (g := gb104) (o := .cells #[.string ((rd_T25 t108 0).f0), .string ((rd_T25 t108 0).f1)] 25 (0, 0)) (by (with_reducible repeat (first | refine blk_drewN ?_ _ | refine blk_drew ?_ | refine blk_alloc ?_ _)); refine blk_put (cs := #[.string ((rd_T25 t108 0).f0), .string a0_1]) ?_ 1 _ rfl; (with_reducible repeat (first | refine blk_drewN ?_ _ | refine blk_drew ?_ | refine blk_alloc ?_ _)); refine blk_put (cs := #[.string a0_0, .string a0_1]) ?_ 0 _ rfl; (with_reducible repeat (first | refine blk_drewN ?_ _ | refine blk_drew ?_ | refine blk_alloc ?_ _)); exact BK104.out)) : gb104 ≠ gb112)); have n8_ := Aside0.mk ((by rw [hg]; exact Nat.ne_of_gt (blk_lt (g := gb104) (o := .cells #[.string ((rd_T25 t108 0).f0), .string ((rd_T25 t108 0).f1)] 25 (0, 0)) (by (with_reducible repeat (first | refine blk_drewN ?_ _ | refine blk_drew ?_ | refine blk_alloc ?_ _)); refine blk_put (cs := #[.string ((rd_T25 t108 0).f0), .string a0_1]) ?_ 1 _ rfl; (with_reducible repeat (first | refine blk_drewN ?_ _ | refine blk_drew ?_ | refine blk_alloc ?_ _)); refine blk_put (cs := #[.string a0_0, .string a0_1]) ?_ 0 _ rfl; (with_reducible repeat (first | refine blk_drewN ?_ _ | refine blk_drew ?_ | refine blk_alloc ?_ _)); exact BK104.out)) : gb112 ≠ gb104)); clear HO107; clear HO110; clear BK104; clear HB; have HO107 := n0_; have HO110 := n1_; have BK104 := n2_; have HB := n3_; have BK112 := n4_; have GW112 := n5_; have GE112 := n6_; have NB104_112 := n7_; have NB112_104 := n8_; clear n0_ n1_ n2_ n3_ n4_ n5_ n6_ n7_ n8_; clear hb hbox hg; have hnb16 := NB112_104.out; have hnc16 := NB104_112.out; have hcz17_0 : w15.cell? ⟨gb112, 0, none⟩ = some (.string (⟨#[]⟩ : ByteArray)) := (blk_cell BK112.out 0).trans rfl; have hcz17_1 : w15.cell? ⟨gb112, 1, none⟩ = some (.string (⟨#[]⟩ : ByteArray)) := (blk_cell BK112.out 1).trans rfl; have hfz17_0 := blk_frozen BK112.out 0; have hfz17_1 := blk_frozen BK112.out 1) | ((with_reducible refine gate_callee (f := 15) rfl ?_); refine goesL_ (some 19) rfl rfl Try.func15 (by kernel_rfl) rfl #[.agg #[.string ((rd_T25 t108 0).f0), .string ((rd_T25 t108 0).f1)]] rfl (by (try simp only [List.map_toArray, List.map_cons, List.map_nil]); first | done | rfl | (simp only [List.length_drop, List.length_take]; rfl)) ?_; (with_reducible refine (GV.Fold.calls k ((rd_T25 t108 0).f0) ((rd_T25 t108 0).f1) t113 t114 _ A4.out).mono ?_); rintro e w18 ⟨rfl, hb⟩; refine ⟨_, rfl, ?_⟩; have n0_ := Aside0.mk (Kd.R_below (by (with_reducible repeat (first | apply Kd.R_alloc | apply Kd.R_drewN | apply Kd.R_drew)); exact (Kd.R_mono (Kd.R_far (p := ⟨gb112, 1, none⟩) (Kd.R_far (p := ⟨gb112, 0, none⟩) (Kd.R_types HO107.out BK112.out (by decide)) (fun _ hk => hk.2) (.string ((rd_T25 t108 0).f0))) (fun _ hk => hk.2) (.string ((rd_T25 t108 0).f1))) (fun _ h_ => h_.1))) hb); have n1_ := Aside0.mk (Kd.R_below (by (with_reducible repeat (first | apply Kd.R_alloc | apply Kd.R_drewN | apply Kd.R_drew)); exact (Kd.R_mono (Kd.R_far (p := ⟨gb112, 1, none⟩) (Kd.R_far (p := ⟨gb112, 0, none⟩) (Kd.R_types HO110.out BK112.out (by decide)) (fun _ hk => hk.2) (.string ((rd_T25 t108 0).f0))) (fun _ hk => hk.2) (.string ((rd_T25 t108 0).f1))) (fun _ h_ => h_.1))) hb); have n2_ := Aside0.mk (blk_below (g := gb104) (o := .cells #[.string ((rd_T25 t108 0).f0), .string ((rd_T25 t108 0).f1)] 25 (0, 0)) (by (with_reducible repeat (first | refine blk_drewN ?_ _ | refine blk_drew ?_ | refine blk_alloc ?_ _)); refine blk_far ?_ NB104_112.out _; (with_reducible repeat (first | refine blk_drewN ?_ _ | refine blk_drew ?_ | refine blk_alloc ?_ _)); refine blk_far ?_ NB104_112.out _; (with_reducible repeat (first | refine blk_drewN ?_ _ | refine blk_drew ?_ | refine blk_alloc ?_ _)); exact BK104.out) hb); have n3_ := Aside0.mk (blk_below (g := gb112) (o := .cells #[.string ((rd_T25 t108 0).f0), .string ((rd_T25 t108 0).f1)] 28 (0, 0)) (by (with_reducible repeat (first | refine blk_drewN ?_ _ | refine blk_drew ?_ | refine blk_alloc ?_ _)); refine blk_put (cs := #[.string ((rd_T25 t108 0).f0), .string (⟨#[]⟩ : ByteArray)]) ?_ 1 _ rfl; (with_reducible repeat (first | refine blk_drewN ?_ _ | refine blk_drew ?_ | refine blk_alloc ?_ _)); refine blk_put (cs := #[.string (⟨#[]⟩ : ByteArray), .string (⟨#[]⟩ : ByteArray)]) ?_ 0 _ rfl; (with_reducible repeat (first | refine blk_drewN ?_ _ | refine blk_drew ?_ | refine blk_alloc ?_ _)); exact BK112.out) hb); have n4_ := Aside0.mk (below_step (by repeat (first | (with_reducible first | exact HB.out | apply below_alloc | apply pw_below_drewN | apply below_drew1 | refine below_set ?_ GE104.out | refine below_set ?_ GE112.out) | exact HB.out)) hb); clear HO107; clear HO110; clear BK104; clear BK112; clear HB; have HO107 := n0_; have HO110 := n1_; have BK104 := n2_; have BK112 := n3_; have HB := n4_; clear n0_ n1_ n2_ n3_ n4_; (try clear hb); (try clear hb2); (try clear hk); (try clear hi); have hcz19_0 : w18.cell? ⟨gb104, 0, none⟩ = some (.string ((rd_T25 t108 0).f0)) := (blk_cell BK104.out 0).trans rfl; have hcz19_1 : w18.cell? ⟨gb104, 1, none⟩ = some (.string ((rd_T25 t108 0).f1)) := (blk_cell BK104.out 1).trans rfl; have hfz19_0 := blk_frozen BK104.out 0; have hfz19_1 := blk_frozen BK104.out 1) | ((with_reducible refine gate_callee (f := 16) rfl ?_); refine goesL_ (some 23) rfl rfl Try.func16 (by kernel_rfl) rfl #[.agg #[.string ((rd_T25 t108 0).f0), .string ((rd_T25 t108 0).f1)]] rfl (by (try simp only [List.map_toArray, List.map_cons, List.map_nil]); first | done | rfl | (simp only [List.length_drop, List.length_take]; rfl)) ?_; (with_reducible refine (PA.bulletinref09_Check.calls k ((rd_T25 t108 0).f0) ((rd_T25 t108 0).f1) t115 _ A5.out).mono ?_); rintro e w20 ⟨rfl, hb⟩; refine ⟨_, rfl, ?_⟩; have n0_ := Aside0.mk (Kd.R_below (by (with_reducible repeat (first | apply Kd.R_alloc | apply Kd.R_drewN | apply Kd.R_drew)); exact HO107.out) hb); have n1_ := Aside0.mk (Kd.R_below (by (with_reducible repeat (first | apply Kd.R_alloc | apply Kd.R_drewN | apply Kd.R_drew)); exact HO110.out) hb); have n2_ := Aside0.mk (blk_below (g := gb104) (o := .cells #[.string ((rd_T25 t108 0).f0), .string ((rd_T25 t108 0).f1)] 25 (0, 0)) (by (with_reducible repeat (first | refine blk_drewN ?_ _ | refine blk_drew ?_ | refine blk_alloc ?_ _)); exact BK104.out) hb); have n3_ := Aside0.mk (blk_below (g := gb112) (o := .cells #[.string ((rd_T25 t108 0).f0), .string ((rd_T25 t108 0).f1)] 28 (0, 0)) (by (with_reducible repeat (first | refine blk_drewN ?_ _ | refine blk_drew ?_ | refine blk_alloc ?_ _)); exact BK112.out) hb); have n4_ := Aside0.mk (below_step (by repeat (first | (with_reducible first | exact HB.out | apply below_alloc | apply pw_below_drewN | apply below_drew1 | refine below_set ?_ GE104.out | refine below_set ?_ GE112.out) | exact HB.out)) hb); clear HO107; clear HO110; clear BK104; clear BK112; clear HB; have HO107 := n0_; have HO110 := n1_; have BK104 := n2_; have BK112 := n3_; have HB := n4_; clear n0_ n1_ n2_ n3_ n4_; (try clear hb); (try clear hb2); (try clear hk); (try clear hi)))
    (try simp only [Act.put, List.setIfInBounds_toArray, List.set_cons_zero, List.set_cons_succ])
    go_cut [32] (fun v32 wc => ∃ (kq : Nat) (x32_5 : Bool), v32 = .bool x32_5 ∧ Aside0 (bulletinlaw09_FieldChecks.j0 kq t113 t115 x32_5 ((rd_T25 t108 0).f0) ((rd_T25 t108 0).f1) = some r) ∧ Aside0 (kq ≤ k) ∧ Aside0 (wc.heap[gb104]? = some (.cells #[.string ((rd_T25 t108 0).f0), .string ((rd_T25 t108 0).f1)] 25 (0, 0))) ∧ Aside0 (wc.heap[gb112]? = some (.cells #[.string ((rd_T25 t108 0).f0), .string ((rd_T25 t108 0).f1)] 28 (0, 0))) ∧ Aside0 (Below w.heap.size w wc))
    case first =>
      have H := HC6.out
      clear HC6
      replace H := Option.bind_eq_some_iff.mp H
      obtain ⟨t116, A210, H⟩ := H
      replace H : (if t116 = t115 then (bulletinlaw09_FieldChecks.j0 k t113 t115 (t114 != t115) ((rd_T25 t108 0).f0) ((rd_T25 t108 0).f1)) else (bulletinlaw09_FieldChecks.j0 k t113 t115 true ((rd_T25 t108 0).f0) ((rd_T25 t108 0).f1))) = some r := H
      have A21 := Aside0.mk A210
      clear A210
      by_cases c22 : t116 = t115
      · rw [if_pos c22] at H
        have c22b0 : (t116 == t115) = true := beq_iff_eq.mpr c22
        have c22b1 : (t116 != t115) = false := bne_eq_false_iff_eq.mpr c22
        clear c22
        (first | rw [c22b0] | (simp only [i64_w, i32_w]; rw [c22b0]) | skip)
        have H' := Aside0.mk H
        clear H
        have hnb23 := NB112_104.out
        have hnc23 := NB104_112.out
        have hcz24_0 : w20.cell? ⟨gb112, 0, none⟩ = some (.string ((rd_T25 t108 0).f0)) := (blk_cell BK112.out 0).trans rfl
        have hcz24_1 : w20.cell? ⟨gb112, 1, none⟩ = some (.string ((rd_T25 t108 0).f1)) := (blk_cell BK112.out 1).trans rfl
        have hfz24_0 := blk_frozen BK112.out 0
        have hfz24_1 := blk_frozen BK112.out 1
        go_wp2_with (first | ((with_reducible refine gate_callee (f := 17) rfl ?_); refine goesL_ (some 25) rfl rfl Try.func17 (by kernel_rfl) rfl #[.agg #[.string ((rd_T25 t108 0).f0), .string ((rd_T25 t108 0).f1)]] rfl (by (try simp only [List.map_toArray, List.map_cons, List.map_nil]); first | done | rfl | (simp only [List.length_drop, List.length_take]; rfl)) ?_; (with_reducible refine (PB.field_Field_Check.calls k ((rd_T25 t108 0).f0) ((rd_T25 t108 0).f1) t116 _ A21.out).mono ?_); rintro e w25 ⟨rfl, hb⟩; refine ⟨_, rfl, ?_⟩; have n0_ := Aside0.mk (Kd.R_below (by (with_reducible repeat (first | apply Kd.R_alloc | apply Kd.R_drewN | apply Kd.R_drew)); exact HO107.out) hb); have n1_ := Aside0.mk (Kd.R_below (by (with_reducible repeat (first | apply Kd.R_alloc | apply Kd.R_drewN | apply Kd.R_drew)); exact HO110.out) hb); have n2_ := Aside0.mk (blk_below (g := gb104) (o := .cells #[.string ((rd_T25 t108 0).f0), .string ((rd_T25 t108 0).f1)] 25 (0, 0)) (by (with_reducible repeat (first | refine blk_drewN ?_ _ | refine blk_drew ?_ | refine blk_alloc ?_ _)); exact BK104.out) hb); have n3_ := Aside0.mk (blk_below (g := gb112) (o := .cells #[.string ((rd_T25 t108 0).f0), .string ((rd_T25 t108 0).f1)] 28 (0, 0)) (by (with_reducible repeat (first | refine blk_drewN ?_ _ | refine blk_drew ?_ | refine blk_alloc ?_ _)); exact BK112.out) hb); have n4_ := Aside0.mk (below_step (by repeat (first | (with_reducible first | exact HB.out | apply below_alloc | apply pw_below_drewN | apply below_drew1 | refine below_set ?_ GE104.out | refine below_set ?_ GE112.out) | exact HB.out)) hb); clear HO107; clear HO110; clear BK104; clear BK112; clear HB; have HO107 := n0_; have HO110 := n1_; have BK104 := n2_; have BK112 := n3_; have HB := n4_; clear n0_ n1_ n2_ n3_ n4_; (try clear hb); (try clear hb2); (try clear hk); (try clear hi)))
        go_meet
        case rel => exact ⟨_, ((t114 != t115)), (by first | rfl | (simp; done) | (simp [*]; done)), H', ⟨by first | omega | exact Nat.le_refl _⟩, ⟨by (with_reducible repeat (first | refine blk_drewN ?_ _ | refine blk_drew ?_ | refine blk_alloc ?_ _)); exact BK104.out⟩, ⟨by (with_reducible repeat (first | refine blk_drewN ?_ _ | refine blk_drew ?_ | refine blk_alloc ?_ _)); exact BK112.out⟩, ⟨by repeat (first | (with_reducible first | exact HB.out | apply below_alloc | apply pw_below_drewN | apply below_drew1 | refine below_set ?_ GE104.out | refine below_set ?_ GE112.out) | exact HB.out)⟩⟩
      · rw [if_neg c22] at H
        have c22b0 : (t116 == t115) = false := beq_eq_false_iff_ne.mpr c22
        have c22b1 : (t116 != t115) = true := bne_iff_ne.mpr c22
        (first | rw [c22b0] | (simp only [i64_w, i32_w]; rw [c22b0]) | skip)
        have H' := Aside0.mk H
        clear H
        have hnb26 := NB112_104.out
        have hnc26 := NB104_112.out
        have hcz27_0 : w20.cell? ⟨gb112, 0, none⟩ = some (.string ((rd_T25 t108 0).f0)) := (blk_cell BK112.out 0).trans rfl
        have hcz27_1 : w20.cell? ⟨gb112, 1, none⟩ = some (.string ((rd_T25 t108 0).f1)) := (blk_cell BK112.out 1).trans rfl
        have hfz27_0 := blk_frozen BK112.out 0
        have hfz27_1 := blk_frozen BK112.out 1
        go_wp2_with (first | ((with_reducible refine gate_callee (f := 17) rfl ?_); refine goesL_ (some 25) rfl rfl Try.func17 (by kernel_rfl) rfl #[.agg #[.string ((rd_T25 t108 0).f0), .string ((rd_T25 t108 0).f1)]] rfl (by (try simp only [List.map_toArray, List.map_cons, List.map_nil]); first | done | rfl | (simp only [List.length_drop, List.length_take]; rfl)) ?_; (with_reducible refine (PB.field_Field_Check.calls k ((rd_T25 t108 0).f0) ((rd_T25 t108 0).f1) t116 _ A21.out).mono ?_); rintro e w28 ⟨rfl, hb⟩; refine ⟨_, rfl, ?_⟩; have n0_ := Aside0.mk (Kd.R_below (by (with_reducible repeat (first | apply Kd.R_alloc | apply Kd.R_drewN | apply Kd.R_drew)); exact HO107.out) hb); have n1_ := Aside0.mk (Kd.R_below (by (with_reducible repeat (first | apply Kd.R_alloc | apply Kd.R_drewN | apply Kd.R_drew)); exact HO110.out) hb); have n2_ := Aside0.mk (blk_below (g := gb104) (o := .cells #[.string ((rd_T25 t108 0).f0), .string ((rd_T25 t108 0).f1)] 25 (0, 0)) (by (with_reducible repeat (first | refine blk_drewN ?_ _ | refine blk_drew ?_ | refine blk_alloc ?_ _)); exact BK104.out) hb); have n3_ := Aside0.mk (blk_below (g := gb112) (o := .cells #[.string ((rd_T25 t108 0).f0), .string ((rd_T25 t108 0).f1)] 28 (0, 0)) (by (with_reducible repeat (first | refine blk_drewN ?_ _ | refine blk_drew ?_ | refine blk_alloc ?_ _)); exact BK112.out) hb); have n4_ := Aside0.mk (below_step (by repeat (first | (with_reducible first | exact HB.out | apply below_alloc | apply pw_below_drewN | apply below_drew1 | refine below_set ?_ GE104.out | refine below_set ?_ GE112.out) | exact HB.out)) hb); clear HO107; clear HO110; clear BK104; clear BK112; clear HB; have HO107 := n0_; have HO110 := n1_; have BK104 := n2_; have BK112 := n3_; have HB := n4_; clear n0_ n1_ n2_ n3_ n4_; (try clear hb); (try clear hb2); (try clear hk); (try clear hi)))
        go_meet
        case rel => exact ⟨_, (true), (by first | rfl | (simp; done) | (simp [*]; done)), H', ⟨by first | omega | exact Nat.le_refl _⟩, ⟨by (with_reducible repeat (first | refine blk_drewN ?_ _ | refine blk_drew ?_ | refine blk_alloc ?_ _)); exact BK104.out⟩, ⟨by (with_reducible repeat (first | refine blk_drewN ?_ _ | refine blk_drew ?_ | refine blk_alloc ?_ _)); exact BK112.out⟩, ⟨by repeat (first | (with_reducible first | exact HB.out | apply below_alloc | apply pw_below_drewN | apply below_drew1 | refine below_set ?_ GE104.out | refine below_set ?_ GE112.out) | exact HB.out)⟩⟩
    case rest =>
      clear HC6
      try clear c1
      try clear p1
      try clear q1
      try clear hx1
      try clear qi1
      try clear c2
      try clear p2
      try clear c3
      try clear c3b0
      try clear c3b1
      try clear c4
      try clear p11
      try clear q11
      try clear hx11
      try clear qi11
      try clear c14
      try clear c15
      try clear c16
      try clear c17
      try clear c22
      try clear c22b0
      try clear c22b1
      try clear c23
      try clear c26
      try clear hcz14_0
      try clear hcz14_1
      try clear hcz17_0
      try clear hcz17_1
      try clear hcz19_0
      try clear hcz19_1
      try clear hcz24_0
      try clear hcz24_1
      try clear hcz27_0
      try clear hcz27_1
      try clear hcz8_0
      try clear hcz8_1
      try clear hfz14_0
      try clear hfz14_1
      try clear hfz17_0
      try clear hfz17_1
      try clear hfz19_0
      try clear hfz19_1
      try clear hfz24_0
      try clear hfz24_1
      try clear hfz27_0
      try clear hfz27_1
      try clear hfz8_0
      try clear hfz8_1
      try clear hx111_0
      try clear hx111_1
      try clear p111
      try clear q111
      obtain ⟨kq, x32_5, rfl, HA, HJ5, BK104, BK112, HB⟩ := hcut
      cases kq with
      | zero => exact absurd HA.out (by simp [bulletinlaw09_FieldChecks.j0])
      | succ kj5 =>
        have H := HA.out
        clear HA
        simp only [bulletinlaw09_FieldChecks.j0] at H
        by_cases c29 : x32_5 = true
        · subst c29
          have H1 : (some false) = some r := by rw [if_pos rfl] at H; exact H
          clear H
          have H := H1
          clear H1
          obtain rfl := Option.some.inj H
          go_wp2
          go_ret
          exact ⟨by first | rfl | (simp [errW_none, errW_some] <;> rfl) | (simp [*, errW_none, errW_some] <;> rfl), by repeat (first | (with_reducible first | exact HB.out | apply below_alloc | apply pw_below_drewN | apply below_drew1 | refine below_set ?_ GE104.out | refine below_set ?_ GE112.out) | exact HB.out)⟩
        · replace c29 := Bool.eq_false_iff.mpr c29
          subst c29
          have H1 : (if t115 = 0 then ((GV.known.f).bind fun t117 => (if t117 = true then ((PA.bulletinref09_Fold.f kj5 ((rd_T25 t108 0).f0) ((rd_T25 t108 0).f1)).bind fun t118 => (some (t113.toList == t118.toList))) else (some false))) else ((GV.known.f).bind fun t119 => (if t119 = true then (some (t113.toList == ([] : List UInt8))) else (some false)))) = some r := by rw [if_neg (show ¬ (false = true) by decide)] at H; exact H
          clear H
          have H := H1
          clear H1
          by_cases c30 : t115 = 0
          · rw [if_pos c30] at H
            have c30b0 : (t115 == 0) = true := beq_iff_eq.mpr c30
            have c30b1 : (t115 != 0) = false := bne_eq_false_iff_eq.mpr c30
            clear c30
            replace H := Option.bind_eq_some_iff.mp H
            obtain ⟨t117, A310, H⟩ := H
            replace H : (if t117 = true then ((PA.bulletinref09_Fold.f kj5 ((rd_T25 t108 0).f0) ((rd_T25 t108 0).f1)).bind fun t118 => (some (t113.toList == t118.toList))) else (some false)) = some r := H
            have A31 := Aside0.mk A310
            clear A310
            by_cases c32 : t117 = true
            · subst c32
              have H1 : ((PA.bulletinref09_Fold.f kj5 ((rd_T25 t108 0).f0) ((rd_T25 t108 0).f1)).bind fun t118 => (some (t113.toList == t118.toList))) = some r := by rw [if_pos rfl] at H; exact H
              clear H
              have H := H1
              clear H1
              replace H := Option.bind_eq_some_iff.mp H
              obtain ⟨t118, A330, H⟩ := H
              replace H : (some (t113.toList == t118.toList)) = some r := H
              have A33 := Aside0.mk A330
              clear A330
              obtain rfl := Option.some.inj H
              go_wp2_with (first | ((with_reducible refine gate_callee (f := 11) rfl ?_); refine goesL_ (some 40) rfl rfl Try.func11 (by kernel_rfl) rfl #[] rfl (by (try simp only [List.map_toArray, List.map_cons, List.map_nil]); first | done | rfl | (simp only [List.length_drop, List.length_take]; rfl)) ?_; (with_reducible refine (GV.known.calls  true _ ?side1 A31.out).mono ?_); (case side1 => exact gm_at HGM.out (by repeat (first | (with_reducible first | exact HB.out | apply below_alloc | apply pw_below_drewN | apply below_drew1 | refine below_set ?_ GE104.out | refine below_set ?_ GE112.out) | exact HB.out))); rintro e w34 ⟨rfl, hb⟩; refine ⟨_, rfl, ?_⟩; have n0_ := Aside0.mk (blk_below (g := gb104) (o := .cells #[.string ((rd_T25 t108 0).f0), .string ((rd_T25 t108 0).f1)] 25 (0, 0)) (by (with_reducible repeat (first | refine blk_drewN ?_ _ | refine blk_drew ?_ | refine blk_alloc ?_ _)); exact BK104.out) hb); have n1_ := Aside0.mk (blk_below (g := gb112) (o := .cells #[.string ((rd_T25 t108 0).f0), .string ((rd_T25 t108 0).f1)] 28 (0, 0)) (by (with_reducible repeat (first | refine blk_drewN ?_ _ | refine blk_drew ?_ | refine blk_alloc ?_ _)); exact BK112.out) hb); have n2_ := Aside0.mk (below_step (by repeat (first | (with_reducible first | exact HB.out | apply below_alloc | apply pw_below_drewN | apply below_drew1 | refine below_set ?_ GE104.out | refine below_set ?_ GE112.out) | exact HB.out)) hb); clear BK104; clear BK112; clear HB; have BK104 := n0_; have BK112 := n1_; have HB := n2_; clear n0_ n1_ n2_; (try clear hb); (try clear hb2); (try clear hk); (try clear hi); have hnb35 := NB104_112.out; have hnc35 := NB112_104.out; have hcz36_0 : w34.cell? ⟨gb104, 0, none⟩ = some (.string ((rd_T25 t108 0).f0)) := (blk_cell BK104.out 0).trans rfl; have hcz36_1 : w34.cell? ⟨gb104, 1, none⟩ = some (.string ((rd_T25 t108 0).f1)) := (blk_cell BK104.out 1).trans rfl; have hfz36_0 := blk_frozen BK104.out 0; have hfz36_1 := blk_frozen BK104.out 1) | (go_at_call 18; (with_reducible refine (PA.bulletinref09_Fold.calls kj5 ((rd_T25 t108 0).f0) ((rd_T25 t108 0).f1) t118 _ A33.out).mono ?_); rintro e w37 ⟨rfl, hb⟩; have n0_ := Aside0.mk (blk_below (g := gb104) (o := .cells #[.string ((rd_T25 t108 0).f0), .string ((rd_T25 t108 0).f1)] 25 (0, 0)) (by (with_reducible repeat (first | refine blk_drewN ?_ _ | refine blk_drew ?_ | refine blk_alloc ?_ _)); exact BK104.out) hb); have n1_ := Aside0.mk (blk_below (g := gb112) (o := .cells #[.string ((rd_T25 t108 0).f0), .string ((rd_T25 t108 0).f1)] 28 (0, 0)) (by (with_reducible repeat (first | refine blk_drewN ?_ _ | refine blk_drew ?_ | refine blk_alloc ?_ _)); exact BK112.out) hb); have n2_ := Aside0.mk (below_step (by repeat (first | (with_reducible first | exact HB.out | apply below_alloc | apply pw_below_drewN | apply below_drew1 | refine below_set ?_ GE104.out | refine below_set ?_ GE112.out) | exact HB.out)) hb); clear BK104; clear BK112; clear HB; have BK104 := n0_; have BK112 := n1_; have HB := n2_; clear n0_ n1_ n2_; (try clear hb); (try clear hb2); (try clear hk); (try clear hi)))
              go_ret
              exact ⟨by first | rfl | (simp [errW_none, errW_some] <;> rfl) | (simp [*, errW_none, errW_some] <;> rfl), by repeat (first | (with_reducible first | exact HB.out | apply below_alloc | apply pw_below_drewN | apply below_drew1 | refine below_set ?_ GE104.out | refine below_set ?_ GE112.out) | exact HB.out)⟩
            · replace c32 := Bool.eq_false_iff.mpr c32
              subst c32
              have H1 : (some false) = some r := by rw [if_neg (show ¬ (false = true) by decide)] at H; exact H
              clear H
              have H := H1
              clear H1
              obtain rfl := Option.some.inj H
              go_wp2_with (first | ((with_reducible refine gate_callee (f := 11) rfl ?_); refine goesL_ (some 40) rfl rfl Try.func11 (by kernel_rfl) rfl #[] rfl (by (try simp only [List.map_toArray, List.map_cons, List.map_nil]); first | done | rfl | (simp only [List.length_drop, List.length_take]; rfl)) ?_; (with_reducible refine (GV.known.calls  false _ ?side1 A31.out).mono ?_); (case side1 => exact gm_at HGM.out (by repeat (first | (with_reducible first | exact HB.out | apply below_alloc | apply pw_below_drewN | apply below_drew1 | refine below_set ?_ GE104.out | refine below_set ?_ GE112.out) | exact HB.out))); rintro e w38 ⟨rfl, hb⟩; refine ⟨_, rfl, ?_⟩; have n0_ := Aside0.mk (blk_below (g := gb104) (o := .cells #[.string ((rd_T25 t108 0).f0), .string ((rd_T25 t108 0).f1)] 25 (0, 0)) (by (with_reducible repeat (first | refine blk_drewN ?_ _ | refine blk_drew ?_ | refine blk_alloc ?_ _)); exact BK104.out) hb); have n1_ := Aside0.mk (blk_below (g := gb112) (o := .cells #[.string ((rd_T25 t108 0).f0), .string ((rd_T25 t108 0).f1)] 28 (0, 0)) (by (with_reducible repeat (first | refine blk_drewN ?_ _ | refine blk_drew ?_ | refine blk_alloc ?_ _)); exact BK112.out) hb); have n2_ := Aside0.mk (below_step (by repeat (first | (with_reducible first | exact HB.out | apply below_alloc | apply pw_below_drewN | apply below_drew1 | refine below_set ?_ GE104.out | refine below_set ?_ GE112.out) | exact HB.out)) hb); clear BK104; clear BK112; clear HB; have BK104 := n0_; have BK112 := n1_; have HB := n2_; clear n0_ n1_ n2_; (try clear hb); (try clear hb2); (try clear hk); (try clear hi)))
              go_ret
              exact ⟨by first | rfl | (simp [errW_none, errW_some] <;> rfl) | (simp [*, errW_none, errW_some] <;> rfl), by repeat (first | (with_reducible first | exact HB.out | apply below_alloc | apply pw_below_drewN | apply below_drew1 | refine below_set ?_ GE104.out | refine below_set ?_ GE112.out) | exact HB.out)⟩
          · rw [if_neg c30] at H
            have c30b0 : (t115 == 0) = false := beq_eq_false_iff_ne.mpr c30
            have c30b1 : (t115 != 0) = true := bne_iff_ne.mpr c30
            replace H := Option.bind_eq_some_iff.mp H
            obtain ⟨t119, A390, H⟩ := H
            replace H : (if t119 = true then (some (t113.toList == ([] : List UInt8))) else (some false)) = some r := H
            have A39 := Aside0.mk A390
            clear A390
            by_cases c40 : t119 = true
            · subst c40
              have H1 : (some (t113.toList == ([] : List UInt8))) = some r := by rw [if_pos rfl] at H; exact H
              clear H
              have H := H1
              clear H1
              obtain rfl := Option.some.inj H
              go_wp2_with (first | ((with_reducible refine gate_callee (f := 11) rfl ?_); refine goesL_ (some 35) rfl rfl Try.func11 (by kernel_rfl) rfl #[] rfl (by (try simp only [List.map_toArray, List.map_cons, List.map_nil]); first | done | rfl | (simp only [List.length_drop, List.length_take]; rfl)) ?_; (with_reducible refine (GV.known.calls  true _ ?side1 A39.out).mono ?_); (case side1 => exact gm_at HGM.out (by repeat (first | (with_reducible first | exact HB.out | apply below_alloc | apply pw_below_drewN | apply below_drew1 | refine below_set ?_ GE104.out | refine below_set ?_ GE112.out) | exact HB.out))); rintro e w41 ⟨rfl, hb⟩; refine ⟨_, rfl, ?_⟩; have n0_ := Aside0.mk (blk_below (g := gb104) (o := .cells #[.string ((rd_T25 t108 0).f0), .string ((rd_T25 t108 0).f1)] 25 (0, 0)) (by (with_reducible repeat (first | refine blk_drewN ?_ _ | refine blk_drew ?_ | refine blk_alloc ?_ _)); exact BK104.out) hb); have n1_ := Aside0.mk (blk_below (g := gb112) (o := .cells #[.string ((rd_T25 t108 0).f0), .string ((rd_T25 t108 0).f1)] 28 (0, 0)) (by (with_reducible repeat (first | refine blk_drewN ?_ _ | refine blk_drew ?_ | refine blk_alloc ?_ _)); exact BK112.out) hb); have n2_ := Aside0.mk (below_step (by repeat (first | (with_reducible first | exact HB.out | apply below_alloc | apply pw_below_drewN | apply below_drew1 | refine below_set ?_ GE104.out | refine below_set ?_ GE112.out) | exact HB.out)) hb); clear BK104; clear BK112; clear HB; have BK104 := n0_; have BK112 := n1_; have HB := n2_; clear n0_ n1_ n2_; (try clear hb); (try clear hb2); (try clear hk); (try clear hi)))
              go_ret
              exact ⟨by first | rfl | (simp [errW_none, errW_some] <;> rfl) | (simp [*, errW_none, errW_some] <;> rfl), by repeat (first | (with_reducible first | exact HB.out | apply below_alloc | apply pw_below_drewN | apply below_drew1 | refine below_set ?_ GE104.out | refine below_set ?_ GE112.out) | exact HB.out)⟩
            · replace c40 := Bool.eq_false_iff.mpr c40
              subst c40
              have H1 : (some false) = some r := by rw [if_neg (show ¬ (false = true) by decide)] at H; exact H
              clear H
              have H := H1
              clear H1
              obtain rfl := Option.some.inj H
              go_wp2_with (first | ((with_reducible refine gate_callee (f := 11) rfl ?_); refine goesL_ (some 35) rfl rfl Try.func11 (by kernel_rfl) rfl #[] rfl (by (try simp only [List.map_toArray, List.map_cons, List.map_nil]); first | done | rfl | (simp only [List.length_drop, List.length_take]; rfl)) ?_; (with_reducible refine (GV.known.calls  false _ ?side1 A39.out).mono ?_); (case side1 => exact gm_at HGM.out (by repeat (first | (with_reducible first | exact HB.out | apply below_alloc | apply pw_below_drewN | apply below_drew1 | refine below_set ?_ GE104.out | refine below_set ?_ GE112.out) | exact HB.out))); rintro e w42 ⟨rfl, hb⟩; refine ⟨_, rfl, ?_⟩; have n0_ := Aside0.mk (blk_below (g := gb104) (o := .cells #[.string ((rd_T25 t108 0).f0), .string ((rd_T25 t108 0).f1)] 25 (0, 0)) (by (with_reducible repeat (first | refine blk_drewN ?_ _ | refine blk_drew ?_ | refine blk_alloc ?_ _)); exact BK104.out) hb); have n1_ := Aside0.mk (blk_below (g := gb112) (o := .cells #[.string ((rd_T25 t108 0).f0), .string ((rd_T25 t108 0).f1)] 28 (0, 0)) (by (with_reducible repeat (first | refine blk_drewN ?_ _ | refine blk_drew ?_ | refine blk_alloc ?_ _)); exact BK112.out) hb); have n2_ := Aside0.mk (below_step (by repeat (first | (with_reducible first | exact HB.out | apply below_alloc | apply pw_below_drewN | apply below_drew1 | refine below_set ?_ GE104.out | refine below_set ?_ GE112.out) | exact HB.out)) hb); clear BK104; clear BK112; clear HB; have BK104 := n0_; have BK112 := n1_; have HB := n2_; clear n0_ n1_ n2_; (try clear hb); (try clear hb2); (try clear hk); (try clear hi)))
              go_ret
              exact ⟨by first | rfl | (simp [errW_none, errW_some] <;> rfl) | (simp [*, errW_none, errW_some] <;> rfl), by repeat (first | (with_reducible first | exact HB.out | apply below_alloc | apply pw_below_drewN | apply below_drew1 | refine below_set ?_ GE104.out | refine below_set ?_ GE112.out) | exact HB.out)⟩
  · rw [if_neg c3] at H
    exact absurd H (by simp)

end Go.Proofs.Ytfeciafdioepiaa.PC
