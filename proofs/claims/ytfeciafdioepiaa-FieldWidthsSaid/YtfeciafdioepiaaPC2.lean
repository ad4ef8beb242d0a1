-- PRINTED by print.py (a twelfth state) out of the translation. Not trusted: Lean checks it.
import Derived.Test.YtfeciafdioepiaaPC0
import Derived.Test.YtfeciafdioepiaaPAc
import Derived.Test.YtfeciafdioepiaaPA4
namespace Go.Proofs.Ytfeciafdioepiaa.PC
open Go.Proofs.Ytfeciafdioepiaa.PA
open Go.Proofs.Ytfeciafdioepiaa
open Go.RowKit Go.Proofs.YtfeciafdioepiaaW.PrintWords Go.Proofs.YtfeciafdioepiaaW.PrintLast Go.Proofs.YtfeciafdioepiaaW.PrintMore
attribute [local go_sem] max2_int min2_int max_two min_two max_three min_three max_four min_four   -- for this text's walks alone
set_option linter.unusedVariables false
set_option linter.unusedSimpArgs false

/-! ### bulletinlaw09_FieldWidths: function 5 -/
mutual
def bulletinlaw09_FieldWidths.l0 : Nat → ByteArray → Int → Int → Int → ByteArray → ByteArray → Option (Bool)
  | 0, _, _, _, _, _, _ => none
  | k + 1, x3, x5, x6, x7, x121000, x121001 => if x7 < (x3.size : Int) then (if 0 ≤ x7 then (if (bt x3 x7) = 10 then (if 0 ≤ x5 then (if x5 ≤ x7 then (if x7 ≤ (x3.size : Int) then ((PA.bulletinref01_Words.f k (x3.extract (x5 : Int).toNat (x7 : Int).toNat)).bind fun t132 => (if x5 = 0 then (if 0 ≤ (mn ((x3.extract (x5 : Int).toNat (x7 : Int).toNat).size : Int) (wrap64 ((x121000.size : Int) + 1))) then (if (mn ((x3.extract (x5 : Int).toNat (x7 : Int).toNat).size : Int) (wrap64 ((x121000.size : Int) + 1))) ≤ ((x3.extract (x5 : Int).toNat (x7 : Int).toNat).size : Int) then ((PA.bulletinref01_Words.f k ((x3.extract (x5 : Int).toNat (x7 : Int).toNat).extract ((mn ((x3.extract (x5 : Int).toNat (x7 : Int).toNat).size : Int) (wrap64 ((x121000.size : Int) + 1))) : Int).toNat (x3.extract (x5 : Int).toNat (x7 : Int).toNat).size)).bind fun t135 => (bulletinlaw09_FieldWidths.j1 k x3 x5 x6 x7 (x3.extract (x5 : Int).toNat (x7 : Int).toNat) (t135.length : Int) x121000 x121001)) else (none)) else (none)) else (bulletinlaw09_FieldWidths.j1 k x3 x5 x6 x7 (x3.extract (x5 : Int).toNat (x7 : Int).toNat) (t132.length : Int) x121000 x121001))) else (none)) else (none)) else (none)) else (bulletinlaw09_FieldWidths.l0 k x3 x5 x6 (wrap64 (x7 + 1)) x121000 x121001)) else (none)) else ((GV.known.f).bind fun t131 => (if t131 = true then (some (x5 == (x3.size : Int))) else (some false)))
def bulletinlaw09_FieldWidths.j1 : Nat → ByteArray → Int → Int → Int → ByteArray → Int → ByteArray → ByteArray → Option (Bool)
  | 0, _, _, _, _, _, _, _, _ => none
  | k + 1, x3, x5, x6, x7, x8, x9, x121000, x121001 => if (x8.size : Int) > 78 then (bulletinlaw09_FieldWidths.j2 k x3 x5 x6 x7 x8 (decide (x9 > 1)) x121000 x121001) else (bulletinlaw09_FieldWidths.j2 k x3 x5 x6 x7 x8 false x121000 x121001)
def bulletinlaw09_FieldWidths.j2 : Nat → ByteArray → Int → Int → Int → ByteArray → Bool → ByteArray → ByteArray → Option (Bool)
  | 0, _, _, _, _, _, _, _, _ => none
  | k + 1, x3, x5, x6, x7, x8, x68, x121000, x121001 => if x68 = true then (some false) else (if x5 > 0 then ((PA.bulletinref01_Words.f k x8).bind fun t138 => (if (t138.length : Int) = 0 then (some false) else (if 0 < (t138.length : Int) then (if (wrap64 ((wrap64 (x6 + 1)) + ((rdOf ByteArray.empty t138 0).size : Int))) ≤ 78 then (some false) else (if 0 < (x8.size : Int) then (if (bt x8 0) = 32 then (bulletinlaw09_FieldWidths.l0 k x3 (wrap64 (x7 + 1)) (x8.size : Int) (wrap64 (x7 + 1)) x121000 x121001) else (some false)) else (none))) else (none)))) else (bulletinlaw09_FieldWidths.l0 k x3 (wrap64 (x7 + 1)) (x8.size : Int) (wrap64 (x7 + 1)) x121000 x121001))
end
def bulletinlaw09_FieldWidths.f (k : Nat) (a0_0 : ByteArray) (a0_1 : ByteArray) : Option (Bool) := (PA.bulletinlaw09_cut.f k (([(⟨a0_0, a0_1⟩ : S25)] : List (S25)))).bind fun t124 => (if 0 < (t124.length : Int) then ((GV.Fold.f k ((rd_T25 t124 0).f0) ((rd_T25 t124 0).f1)).bind fun bt128 => (if bt128.2 = 0 then (bulletinlaw09_FieldWidths.l0 k bt128.1 0 0 0 ((rd_T25 t124 0).f0) ((rd_T25 t124 0).f1)) else ((GV.known.f).bind fun t130 => (if t130 = true then (some (bt128.1.toList == ([] : List UInt8))) else (some false))))) else (none))
theorem bulletinlaw09_FieldWidths.mono_l : ∀ k, (∀ y0 y1 y2 y3 y4 y5, LeO (bulletinlaw09_FieldWidths.l0 k y0 y1 y2 y3 y4 y5) (bulletinlaw09_FieldWidths.l0 (k + 1) y0 y1 y2 y3 y4 y5)) ∧ (∀ y0 y1 y2 y3 y4 y5 y6 y7, LeO (bulletinlaw09_FieldWidths.j1 k y0 y1 y2 y3 y4 y5 y6 y7) (bulletinlaw09_FieldWidths.j1 (k + 1) y0 y1 y2 y3 y4 y5 y6 y7)) ∧ (∀ y0 y1 y2 y3 y4 y5 y6 y7, LeO (bulletinlaw09_FieldWidths.j2 k y0 y1 y2 y3 y4 y5 y6 y7) (bulletinlaw09_FieldWidths.j2 (k + 1) y0 y1 y2 y3 y4 y5 y6 y7))
  | 0 => ⟨fun _ _ _ _ _ _ r h => by simp [bulletinlaw09_FieldWidths.l0] at h, fun _ _ _ _ _ _ _ _ r h => by simp [bulletinlaw09_FieldWidths.j1] at h, fun _ _ _ _ _ _ _ _ r h => by simp [bulletinlaw09_FieldWidths.j2] at h⟩
  | k + 1 => by
    obtain ⟨ih0, ih1, ih2⟩ := bulletinlaw09_FieldWidths.mono_l k
    refine ⟨?_, ?_, ?_⟩
    · intro y0 y1 y2 y3 y4 y5
      unfold bulletinlaw09_FieldWidths.l0
      repeat' first
      | (with_reducible exact ih0 _ _ _ _ _ _)
      | (with_reducible exact ih1 _ _ _ _ _ _ _ _)
      | (with_reducible exact ih2 _ _ _ _ _ _ _ _)
      | (with_reducible exact GV.Fold.mono _ _ _)
      | (with_reducible exact PA.bulletinlaw09_cut.mono _ _)
      | (with_reducible exact PA.bulletinref01_Words.mono _ _)
      | (with_reducible exact LeO.refl _)
      | (with_reducible exact LeO.none _)
      | (with_reducible refine LeO.ite ?_ ?_)
      | (with_reducible refine LeO.bind ?_ (fun _ => ?_))
      | exact ih0 _ _ _ _ _ _
      | exact ih1 _ _ _ _ _ _ _ _
      | exact ih2 _ _ _ _ _ _ _ _
      | exact GV.Fold.mono _ _ _
      | exact PA.bulletinlaw09_cut.mono _ _
      | exact PA.bulletinref01_Words.mono _ _
      | exact LeO.none _
      | refine LeO.ite ?_ ?_
      | refine LeO.bind ?_ (fun _ => ?_)
    · intro y0 y1 y2 y3 y4 y5 y6 y7
      unfold bulletinlaw09_FieldWidths.j1
      repeat' first
      | (with_reducible exact ih0 _ _ _ _ _ _)
      | (with_reducible exact ih1 _ _ _ _ _ _ _ _)
      | (with_reducible exact ih2 _ _ _ _ _ _ _ _)
      | (with_reducible exact GV.Fold.mono _ _ _)
      | (with_reducible exact PA.bulletinlaw09_cut.mono _ _)
      | (with_reducible exact PA.bulletinref01_Words.mono _ _)
      | (with_reducible exact LeO.refl _)
      | (with_reducible exact LeO.none _)
      | (with_reducible refine LeO.ite ?_ ?_)
      | (with_reducible refine LeO.bind ?_ (fun _ => ?_))
      | exact ih0 _ _ _ _ _ _
      | exact ih1 _ _ _ _ _ _ _ _
      | exact ih2 _ _ _ _ _ _ _ _
      | exact GV.Fold.mono _ _ _
      | exact PA.bulletinlaw09_cut.mono _ _
      | exact PA.bulletinref01_Words.mono _ _
      | exact LeO.none _
      | refine LeO.ite ?_ ?_
      | refine LeO.bind ?_ (fun _ => ?_)
    · intro y0 y1 y2 y3 y4 y5 y6 y7
      unfold bulletinlaw09_FieldWidths.j2
      repeat' first
      | (with_reducible exact ih0 _ _ _ _ _ _)
      | (with_reducible exact ih1 _ _ _ _ _ _ _ _)
      | (with_reducible exact ih2 _ _ _ _ _ _ _ _)
      | (with_reducible exact GV.Fold.mono _ _ _)
      | (with_reducible exact PA.bulletinlaw09_cut.mono _ _)
      | (with_reducible exact PA.bulletinref01_Words.mono _ _)
      | (with_reducible exact LeO.refl _)
      | (with_reducible exact LeO.none _)
      | (with_reducible refine LeO.ite ?_ ?_)
      | (with_reducible refine LeO.bind ?_ (fun _ => ?_))
      | exact ih0 _ _ _ _ _ _
      | exact ih1 _ _ _ _ _ _ _ _
      | exact ih2 _ _ _ _ _ _ _ _
      | exact GV.Fold.mono _ _ _
      | exact PA.bulletinlaw09_cut.mono _ _
      | exact PA.bulletinref01_Words.mono _ _
      | exact LeO.none _
      | refine LeO.ite ?_ ?_
      | refine LeO.bind ?_ (fun _ => ?_)
theorem bulletinlaw09_FieldWidths.mono : ∀ a0 a1 k, LeO (bulletinlaw09_FieldWidths.f k a0 a1) (bulletinlaw09_FieldWidths.f (k + 1) a0 a1) := by
  intro a0 a1 k
  obtain ⟨ih0, ih1, ih2⟩ := bulletinlaw09_FieldWidths.mono_l k
  unfold bulletinlaw09_FieldWidths.f
  repeat' first
      | (with_reducible exact ih0 _ _ _ _ _ _)
      | (with_reducible exact ih1 _ _ _ _ _ _ _ _)
      | (with_reducible exact ih2 _ _ _ _ _ _ _ _)
      | (with_reducible exact GV.Fold.mono _ _ _)
      | (with_reducible exact PA.bulletinlaw09_cut.mono _ _)
      | (with_reducible exact PA.bulletinref01_Words.mono _ _)
      | (with_reducible exact LeO.refl _)
      | (with_reducible exact LeO.none _)
      | (with_reducible refine LeO.ite ?_ ?_)
      | (with_reducible refine LeO.bind ?_ (fun _ => ?_))
      | exact ih0 _ _ _ _ _ _
      | exact ih1 _ _ _ _ _ _ _ _
      | exact ih2 _ _ _ _ _ _ _ _
      | exact GV.Fold.mono _ _ _
      | exact PA.bulletinlaw09_cut.mono _ _
      | exact PA.bulletinref01_Words.mono _ _
      | exact LeO.none _
      | refine LeO.ite ?_ ?_
      | refine LeO.bind ?_ (fun _ => ?_)
set_option maxHeartbeats 8000000 in
set_option maxRecDepth 100000 in
theorem bulletinlaw09_FieldWidths.calls (k : Nat) (a0_0 : ByteArray) (a0_1 : ByteArray) (r : Bool) (w : World) (hgm : Gm w) (h : bulletinlaw09_FieldWidths.f k a0_0 a0_1 = some r) :
    Calls Try.prog 5 #[.agg #[.string a0_0, .string a0_1]] w fun e w' => e = .returned (.bool r) ∧ Below w.heap.size w w' := by
  have hu25 := Try.underlying25
  have hu28 := Try.underlying28
  have HGM := Aside0.mk hgm
  clear hgm
  have HB := Aside0.mk (Below.refl w.heap.size w)
  have H : ((PA.bulletinlaw09_cut.f k (([(⟨a0_0, a0_1⟩ : S25)] : List (S25)))).bind fun t124 => (if 0 < (t124.length : Int) then ((GV.Fold.f k ((rd_T25 t124 0).f0) ((rd_T25 t124 0).f1)).bind fun bt128 => (if bt128.2 = 0 then (bulletinlaw09_FieldWidths.l0 k bt128.1 0 0 0 ((rd_T25 t124 0).f0) ((rd_T25 t124 0).f1)) else ((GV.known.f).bind fun t130 => (if t130 = true then (some (bt128.1.toList == ([] : List UInt8))) else (some false))))) else (none))) = some r := h
  clear h
  obtain ⟨y121, hy121⟩ : ∃ y_ : List (S25), y_ = (([(⟨a0_0, a0_1⟩ : S25)] : List (S25))) := ⟨_, rfl⟩
  replace H : ((PA.bulletinlaw09_cut.f k y121).bind fun t124 => (if 0 < (t124.length : Int) then ((GV.Fold.f k ((rd_T25 t124 0).f0) ((rd_T25 t124 0).f1)).bind fun bt128 => (if bt128.2 = 0 then (bulletinlaw09_FieldWidths.l0 k bt128.1 0 0 0 ((rd_T25 t124 0).f0) ((rd_T25 t124 0).f1)) else ((GV.known.f).bind fun t130 => (if t130 = true then (some (bt128.1.toList == ([] : List UInt8))) else (some false))))) else (none))) = some r := by first | (rw [hy121]; with_reducible exact H) | (have H2_ := (Option.bind_some _ _).symm.trans H; rw [hy121]; with_reducible exact H2_) | (have H2_ := (Option.bind_some _ _).symm.trans H; with_reducible exact H2_) | with_reducible exact H | (rw [hy121]; exact H) | exact H
  have Ny121 := Aside0.mk hy121
  clear hy121
  replace H := Option.bind_eq_some_iff.mp H
  obtain ⟨t124, A20, H⟩ := H
  replace H : (if 0 < (t124.length : Int) then ((GV.Fold.f k ((rd_T25 t124 0).f0) ((rd_T25 t124 0).f1)).bind fun bt128 => (if bt128.2 = 0 then (bulletinlaw09_FieldWidths.l0 k bt128.1 0 0 0 ((rd_T25 t124 0).f0) ((rd_T25 t124 0).f1)) else ((GV.known.f).bind fun t130 => (if t130 = true then (some (bt128.1.toList == ([] : List UInt8))) else (some false))))) else (none)) = some r := H
  have A2 := Aside0.mk A20
  clear A20
  by_cases c3 : 0 < (t124.length : Int)
  · rw [if_pos c3] at H
    have c3b0 : decide (0 < (t124.length : Int)) = true := decide_eq_true c3
    have c3b1 : decide (0 < t124.length) = true := decide_eq_true (by omega)
    clear c3
    replace H := Option.bind_eq_some_iff.mp H
    obtain ⟨⟨t128, t129⟩, A40, H⟩ := H
    replace H : (if t129 = 0 then (bulletinlaw09_FieldWidths.l0 k t128 0 0 0 ((rd_T25 t124 0).f0) ((rd_T25 t124 0).f1)) else ((GV.known.f).bind fun t130 => (if t130 = true then (some (t128.toList == ([] : List UInt8))) else (some false)))) = some r := H
    have A4 := Aside0.mk A40
    clear A40
    by_cases c5 : t129 = 0
    · rw [if_pos c5] at H
      have c5b0 : (t129 == 0) = true := beq_iff_eq.mpr c5
      have c5b1 : (t129 != 0) = false := bne_eq_false_iff_eq.mpr c5
      clear c5
      have H' := Aside0.mk H
      clear H
      go_enter Try.func5, Try.ntmps5
      go_wp2_with (first | ((with_reducible refine gate_dst (N := 1) rfl ?_); (try (refine gate_guard (by rfl) ?_; dsimp only)); refine box_event ?hg (N := 1) ?hd (cs := #[.string a0_0, .string a0_1]) (t := 25) ?hr ?_; (case hd => rfl); (case hg => rfl); (case hr => first | (go_simp; done) | (go_simp; rfl)); intro gb120 hg w6 hbox hb; have n0_ := Aside0.mk (below_step (by repeat (first | (with_reducible first | exact HB.out | apply below_alloc | apply pw_below_drewN | apply below_drew1) | exact HB.out)) hb); have n1_ := Aside0.mk (hbox); have n2_ := Aside0.mk ((by rw [hg]; exact (below_size (by repeat (first | (with_reducible first | exact HB.out | apply below_alloc | apply pw_below_drewN | apply below_drew1) | exact HB.out))) : w.heap.size ≤ gb120)); have n3_ := Aside0.mk ((by rw [hg]; exact (below_size (by repeat (first | (with_reducible first | exact HB.out | apply below_alloc | apply pw_below_drewN | apply below_drew1) | exact HB.out))) : w.heap.size ≤ gb120)); clear HB; have HB := n0_; have BK120 := n1_; have GW120 := n2_; have GE120 := n3_; clear n0_ n1_ n2_ n3_; clear hb hbox hg; have hcz7_0 : w6.cell? ⟨gb120, 0, none⟩ = some (.string a0_0) := (blk_cell BK120.out 0).trans rfl; have hcz7_1 : w6.cell? ⟨gb120, 1, none⟩ = some (.string a0_1) := (blk_cell BK120.out 1).trans rfl; have hfz7_0 := blk_frozen BK120.out 0; have hfz7_1 := blk_frozen BK120.out 1) | ((with_reducible refine gate_dst (N := 12) rfl ?_); (try (refine gate_guard (by rfl) ?_; dsimp only)); refine Kd.R_lit k25 _ 25 ?hg (N := 12) ?hd (xs := ([(⟨a0_0, a0_1⟩ : S25)] : List (S25))) (inner := [.string a0_0, .string a0_1]) (ok := fun _ => True) (okp := fun _ => True) ?hr ?hp (fun _ hk => hk) trivial (Below.refl _ _) (Nat.le_refl _) (by simp) ?_; (case hd => rfl); (case hg => rfl); (case hr => first | (go_simp; done) | (go_simp; rfl)); (case hp => exact (Reps.c2 (show Kd.M k25 _ _ _ (⟨a0_0, a0_1⟩ : S25) [.string a0_0, .string a0_1] from (k25_mkM _ _ _ (⟨a0_0, a0_1⟩ : S25) )) (Reps.none _ _))); intro v122 w8 ho9 hb hg_ hnew_; clear hg_ hnew_; (first | rw [← Ny121.out] at ho9 | (simp only [Int.reduceToNat] at ho9; rw [← Ny121.out] at ho9)); have n0_ := Aside0.mk (Kd.R_lower (Kd.R_newB ho9 (g := gb120) (o := .cells #[.string a0_0, .string a0_1] 25 (0, 0)) (by (with_reducible repeat (first | refine blk_drewN ?_ _ | refine blk_drew ?_ | refine blk_alloc ?_ _)); exact BK120.out)) (below_size (by repeat (first | (with_reducible first | exact HB.out | apply below_alloc | apply pw_below_drewN | apply below_drew1 | refine below_set ?_ GE120.out) | exact HB.out)))); have n1_ := Aside0.mk (blk_below (g := gb120) (o := .cells #[.string a0_0, .string a0_1] 25 (0, 0)) (by (with_reducible repeat (first | refine blk_drewN ?_ _ | refine blk_drew ?_ | refine blk_alloc ?_ _)); exact BK120.out) hb); have n2_ := Aside0.mk (below_step (by repeat (first | (with_reducible first | exact HB.out | apply below_alloc | apply pw_below_drewN | apply below_drew1 | refine below_set ?_ GE120.out) | exact HB.out)) hb); clear BK120; clear HB; have HO123 := n0_; have BK120 := n1_; have HB := n2_; clear n0_ n1_ n2_; clear hb ho9; obtain ⟨Ao10, co10, eo10⟩ := Kd.R_slice HO123.out; subst eo10) | ((with_reducible refine gate_callee (f := 14) rfl ?_); refine goesL_ (some 13) rfl rfl Try.func14 (by kernel_rfl) rfl #[.slice Ao10 y121.length co10] rfl (by (try simp only [List.map_toArray, List.map_cons, List.map_nil]); first | done | rfl | (simp only [List.length_drop, List.length_take]; rfl)) ?_; (with_reducible refine (PA.bulletinlaw09_cut.calls k _ _ y121 t124 _ ?side1 ?side2 A2.out).mono ?_); (case side1 => repeat (first | exact (Kd.R_reads' HO123.out).2.2 | (with_reducible refine Kd.C_alloc ?_ _) | (with_reducible refine Kd.C_drewN ?_ _) | (with_reducible refine Kd.C_drew ?_))); (case side2 => exact (Kd.R_reads' HO123.out).2.1); rintro e w11 ⟨v125, rfl, ho0, hb⟩; refine ⟨_, rfl, ?_⟩; have n0_ := Aside0.mk (Kd.R_elder' (by (with_reducible repeat (first | apply Kd.R_alloc | apply Kd.R_drewN | apply Kd.R_drew)); exact HO123.out) (Kd.R_base ho0) hb); have n1_ := Aside0.mk (Kd.R_lower (Kd.R_newB (Kd.R_new' ho0 (Kd.R_lt (by (with_reducible repeat (first | apply Kd.R_alloc | apply Kd.R_drewN | apply Kd.R_drew)); exact HO123.out))) (g := gb120) (o := .cells #[.string a0_0, .string a0_1] 25 (0, 0)) (by (with_reducible repeat (first | refine blk_drewN ?_ _ | refine blk_drew ?_ | refine blk_alloc ?_ _)); exact BK120.out)) (below_size (by repeat (first | (with_reducible first | exact HB.out | apply below_alloc | apply pw_below_drewN | apply below_drew1 | refine below_set ?_ GE120.out) | exact HB.out)))); have n2_ := Aside0.mk (blk_below (g := gb120) (o := .cells #[.string a0_0, .string a0_1] 25 (0, 0)) (by (with_reducible repeat (first | refine blk_drewN ?_ _ | refine blk_drew ?_ | refine blk_alloc ?_ _)); exact BK120.out) hb); have n3_ := Aside0.mk (below_step (by repeat (first | (with_reducible first | exact HB.out | apply below_alloc | apply pw_below_drewN | apply below_drew1 | refine below_set ?_ GE120.out) | exact HB.out)) hb); clear HO123; clear BK120; clear HB; have HO123 := n0_; have HO126 := n1_; have BK120 := n2_; have HB := n3_; clear n0_ n1_ n2_ n3_; (try clear hb); (try clear hb2); (try clear hk); (try clear hi); (try clear ho0); obtain ⟨Ao12, co12, eo12⟩ := Kd.R_slice HO126.out; subst eo12; have p127 : 0 ≤ (0 : Int) := (by omega); have q127 : 0 < (t124.length : Int) := of_decide_eq_true (by first | (with_reducible assumption) | assumption); obtain ⟨ad127, e127, hx127_0, hx127_1⟩ := at_T25 (Kd.R_reads' HO126.out).2.2 0 p127 q127; cases e127; have qi127 : (0 < t124.length) = True := eq_true (by omega); (try rw [show ((0 : Int)).toNat = 0 from rfl] at hx127_0); (try rw [show 0 * 2 = 0 from rfl] at hx127_0); (try rw [Addr.add_zero'] at hx127_0); (try rw [show ((0 : Int)).toNat = 0 from rfl] at hx127_1); (try rw [show 0 * 2 = 0 from rfl] at hx127_1); (try rw [Addr.add_zero'] at hx127_1); replace p127 := eq_true p127; replace q127 := eq_true q127; have hcz13_0 : w11.cell? ⟨gb120, 0, none⟩ = some (.string a0_0) := (blk_cell BK120.out 0).trans rfl; have hcz13_1 : w11.cell? ⟨gb120, 1, none⟩ = some (.string a0_1) := (blk_cell BK120.out 1).trans rfl; have hfz13_0 := blk_frozen BK120.out 0; have hfz13_1 := blk_frozen BK120.out 1) | ((with_reducible refine gate_callee (f := 15) rfl ?_); refine goesL_ (some 22) rfl rfl Try.func15 (by kernel_rfl) rfl #[.agg #[.string ((rd_T25 t124 0).f0), .string ((rd_T25 t124 0).f1)]] rfl (by (try simp only [List.map_toArray, List.map_cons, List.map_nil]); first | done | rfl | (simp only [List.length_drop, List.length_take]; rfl)) ?_; (with_reducible refine (GV.Fold.calls k ((rd_T25 t124 0).f0) ((rd_T25 t124 0).f1) t128 t129 _ A4.out).mono ?_); rintro e w14 ⟨rfl, hb⟩; refine ⟨_, rfl, ?_⟩; have n0_ := Aside0.mk (Kd.R_below (by (with_reducible repeat (first | apply Kd.R_alloc | apply Kd.R_drewN | apply Kd.R_drew)); exact (Kd.R_mono (Kd.R_far (p := ⟨gb120, 1, none⟩) (Kd.R_far (p := ⟨gb120, 0, none⟩) (Kd.R_mono HO123.out (fun k_ hk => (⟨hk, hk.1.2⟩ : _ ∧ k_ ≠ gb120))) (fun _ hk => hk.2) (.string ((rd_T25 t124 0).f0))) (fun _ hk => hk.2) (.string ((rd_T25 t124 0).f1))) (fun _ h_ => h_.1))) hb); have n1_ := Aside0.mk (Kd.R_below (by (with_reducible repeat (first | apply Kd.R_alloc | apply Kd.R_drewN | apply Kd.R_drew)); exact (Kd.R_mono (Kd.R_far (p := ⟨gb120, 1, none⟩) (Kd.R_far (p := ⟨gb120, 0, none⟩) (Kd.R_mono HO126.out (fun k_ hk => (⟨hk, hk.2⟩ : _ ∧ k_ ≠ gb120))) (fun _ hk => hk.2) (.string ((rd_T25 t124 0).f0))) (fun _ hk => hk.2) (.string ((rd_T25 t124 0).f1))) (fun _ h_ => h_.1))) hb); have n2_ := Aside0.mk (blk_below (g := gb120) (o := .cells #[.string ((rd_T25 t124 0).f0), .string ((rd_T25 t124 0).f1)] 25 (0, 0)) (by (with_reducible repeat (first | refine blk_drewN ?_ _ | refine blk_drew ?_ | refine blk_alloc ?_ _)); refine blk_put (cs := #[.string ((rd_T25 t124 0).f0), .string a0_1]) ?_ 1 _ rfl; (with_reducible repeat (first | refine blk_drewN ?_ _ | refine blk_drew ?_ | refine blk_alloc ?_ _)); refine blk_put (cs := #[.string a0_0, .string a0_1]) ?_ 0 _ rfl; (with_reducible repeat (first | refine blk_drewN ?_ _ | refine blk_drew ?_ | refine blk_alloc ?_ _)); exact BK120.out) hb); have n3_ := Aside0.mk (below_step (by repeat (first | (with_reducible first | exact HB.out | apply below_alloc | apply pw_below_drewN | apply below_drew1 | refine below_set ?_ GE120.out) | exact HB.out)) hb); clear HO123; clear HO126; clear BK120; clear HB; have HO123 := n0_; have HO126 := n1_; have BK120 := n2_; have HB := n3_; clear n0_ n1_ n2_ n3_; (try clear hb); (try clear hb2); (try clear hk); (try clear hi)))
      go_loopg [5, 6, 7] k (fun kq v5 v6 v7 w' => ∃ (x5_1 : Int) (x6_1 : Int) (x7_1 : Int), v5 = .int .i64 x5_1 ∧ v6 = .int .i64 x6_1 ∧ v7 = .int .i64 x7_1 ∧ Aside0 (bulletinlaw09_FieldWidths.l0 kq t128 x5_1 x6_1 x7_1 ((rd_T25 t124 0).f0) ((rd_T25 t124 0).f1) = some r) ∧ Aside0 (kq ≤ k) ∧ Aside0 (w'.heap[gb120]? = some (.cells #[.string ((rd_T25 t124 0).f0), .string ((rd_T25 t124 0).f1)] 25 (0, 0))) ∧ Aside0 (Below w.heap.size w w'))
      case atStart => exact ⟨(0), (0), (0), (by first | rfl | (simp; done) | (simp [*]; done)), (by first | rfl | (simp; done) | (simp [*]; done)), (by first | rfl | (simp; done) | (simp [*]; done)), H', ⟨Nat.le_refl _⟩, ⟨by (with_reducible repeat (first | refine blk_drewN ?_ _ | refine blk_drew ?_ | refine blk_alloc ?_ _)); exact BK120.out⟩, ⟨by repeat (first | (with_reducible first | exact HB.out | apply below_alloc | apply pw_below_drewN | apply below_drew1 | refine below_set ?_ GE120.out) | exact HB.out)⟩⟩
      case round =>
        clear H'
        try clear c1
        try clear p1
        try clear q1
        try clear hx1
        try clear qi1
        try clear c2
        try clear p2
        try clear c3
        try clear c3b0
        try clear c3b1
        try clear c5
        try clear c5b0
        try clear c5b1
        try clear p12
        try clear q12
        try clear hx12
        try clear qi12
        try clear c14
        try clear hcz13_0
        try clear hcz13_1
        try clear hcz7_0
        try clear hcz7_1
        try clear hfz13_0
        try clear hfz13_1
        try clear hfz7_0
        try clear hfz7_1
        try clear hx127_0
        try clear hx127_1
        try clear p127
        try clear q127
        obtain ⟨x5_1, x6_1, x7_1, rfl, rfl, rfl, HA, HK1, BK120, HB⟩ := hrel
        cases gk with
        | zero => exact absurd HA.out (by simp [bulletinlaw09_FieldWidths.l0])
        | succ k1 =>
          have H := HA.out
          clear HA
          simp only [bulletinlaw09_FieldWidths.l0] at H
          by_cases c15 : x7_1 < (t128.size : Int)
          · rw [if_pos c15] at H
            have c15b0 : decide (x7_1 < (t128.size : Int)) = true := decide_eq_true c15
            clear c15
            by_cases c16 : 0 ≤ x7_1
            · rw [if_pos c16] at H
              have c16b0 : decide (0 ≤ x7_1) = true := decide_eq_true c16
              clear c16
              by_cases c18 : (bt t128 x7_1) = 10
              · rw [if_pos c18] at H
                have c18b0 : ((bt t128 x7_1) == 10) = true := beq_iff_eq.mpr c18
                have c18b1 : ((bt t128 x7_1) != 10) = false := bne_eq_false_iff_eq.mpr c18
                clear c18
                by_cases c19 : 0 ≤ x5_1
                · rw [if_pos c19] at H
                  have c19b0 := eq_true c19
                  have c19b1 : decide (0 ≤ x5_1) = true := decide_eq_true c19
                  clear c19
                  by_cases c20 : x5_1 ≤ x7_1
                  · rw [if_pos c20] at H
                    have c20b0 := eq_true c20
                    have c20b1 : decide (x5_1 ≤ x7_1) = true := decide_eq_true c20
                    clear c20
                    by_cases c21 : x7_1 ≤ (t128.size : Int)
                    · rw [if_pos c21] at H
                      have c21b0 := eq_true c21
                      have c21b1 : decide (x7_1 ≤ (t128.size : Int)) = true := decide_eq_true c21
                      clear c21
                      replace H := Option.bind_eq_some_iff.mp H
                      obtain ⟨t132, A220, H⟩ := H
                      replace H : (if x5_1 = 0 then (if 0 ≤ (mn ((t128.extract (x5_1 : Int).toNat (x7_1 : Int).toNat).size : Int) (wrap64 ((((rd_T25 t124 0).f0).size : Int) + 1))) then (if (mn ((t128.extract (x5_1 : Int).toNat (x7_1 : Int).toNat).size : Int) (wrap64 ((((rd_T25 t124 0).f0).size : Int) + 1))) ≤ ((t128.extract (x5_1 : Int).toNat (x7_1 : Int).toNat).size : Int) then ((PA.bulletinref01_Words.f k1 ((t128.extract (x5_1 : Int).toNat (x7_1 : Int).toNat).extract ((mn ((t128.extract (x5_1 : Int).toNat (x7_1 : Int).toNat).size : Int) (wrap64 ((((rd_T25 t124 0).f0).size : Int) + 1))) : Int).toNat (t128.extract (x5_1 : Int).toNat (x7_1 : Int).toNat).size)).bind fun t135 => (bulletinlaw09_FieldWidths.j1 k1 t128 x5_1 x6_1 x7_1 (t128.extract (x5_1 : Int).toNat (x7_1 : Int).toNat) (t135.length : Int) ((rd_T25 t124 0).f0) ((rd_T25 t124 0).f1))) else (none)) else (none)) else (bulletinlaw09_FieldWidths.j1 k1 t128 x5_1 x6_1 x7_1 (t128.extract (x5_1 : Int).toNat (x7_1 : Int).toNat) (t132.length : Int) ((rd_T25 t124 0).f0) ((rd_T25 t124 0).f1))) = some r := H
                      have A22 := Aside0.mk A220
                      clear A220
                      have HC23 := Aside0.mk H
                      clear H
                      have p17 : 0 ≤ (x7_1 : Int) := of_decide_eq_true (by first | (with_reducible assumption) | assumption)
                      have q17 : x7_1 < (t128.size : Int) := of_decide_eq_true (by first | (with_reducible assumption) | assumption)
                      have hx17 := bt_at t128 x7_1
                      replace p17 := eq_true p17
                      replace q17 := eq_true q17
                      go_upto_if 50 with (first | ((with_reducible refine gate_callee (f := 19) rfl ?_); refine goesL_ (some 47) rfl rfl Try.func19 (by kernel_rfl) rfl #[.string (t128.extract (x5_1 : Int).toNat (x7_1 : Int).toNat)] rfl (by (try simp only [List.map_toArray, List.map_cons, List.map_nil]); first | done | rfl | (simp only [List.length_drop, List.length_take]; rfl)) ?_; (with_reducible refine (PA.bulletinref01_Words.calls k1 (t128.extract (x5_1 : Int).toNat (x7_1 : Int).toNat) t132 _ A22.out).mono ?_); rintro e w24 ⟨v133, rfl, ho0, hb⟩; refine ⟨_, rfl, ?_⟩; have n0_ := Aside0.mk (Kd.R_lower ho0 (below_size (by repeat (first | (with_reducible first | exact HB.out | apply below_alloc | apply pw_below_drewN | apply below_drew1 | refine below_set ?_ GE120.out) | exact HB.out)))); have n1_ := Aside0.mk (blk_below (g := gb120) (o := .cells #[.string ((rd_T25 t124 0).f0), .string ((rd_T25 t124 0).f1)] 25 (0, 0)) (by (with_reducible repeat (first | refine blk_drewN ?_ _ | refine blk_drew ?_ | refine blk_alloc ?_ _)); exact BK120.out) hb); have n2_ := Aside0.mk (below_step (by repeat (first | (with_reducible first | exact HB.out | apply below_alloc | apply pw_below_drewN | apply below_drew1 | refine below_set ?_ GE120.out) | exact HB.out)) hb); clear BK120; clear HB; have HO134 := n0_; have BK120 := n1_; have HB := n2_; clear n0_ n1_ n2_; (try clear hb); (try clear hb2); (try clear hk); (try clear hi); (try clear ho0); obtain ⟨Ao25, co25, eo25⟩ := Kd.R_slice HO134.out; subst eo25))
                      (try simp only [Act.put, List.setIfInBounds_toArray, List.set_cons_zero, List.set_cons_succ])
                      go_cut [9] (fun v9 wc => ∃ (kq : Nat) (x9_22 : Int), v9 = .int .i64 x9_22 ∧ Aside0 (bulletinlaw09_FieldWidths.j1 kq t128 x5_1 x6_1 x7_1 (t128.extract (x5_1 : Int).toNat (x7_1 : Int).toNat) x9_22 ((rd_T25 t124 0).f0) ((rd_T25 t124 0).f1) = some r) ∧ Aside0 (kq ≤ k1) ∧ Aside0 (wc.heap[gb120]? = some (.cells #[.string ((rd_T25 t124 0).f0), .string ((rd_T25 t124 0).f1)] 25 (0, 0))) ∧ Aside0 (Below w.heap.size w wc))
                      case first =>
                        have H := HC23.out
                        clear HC23
                        by_cases c26 : x5_1 = 0
                        · rw [if_pos c26] at H
                          have c26b0 : (x5_1 == 0) = true := beq_iff_eq.mpr c26
                          have c26b1 : (x5_1 != 0) = false := bne_eq_false_iff_eq.mpr c26
                          clear c26
                          (first | rw [c26b0] | (simp only [i64_w, i32_w]; rw [c26b0]) | skip)
                          obtain ⟨ji27, hji27⟩ : ∃ j_ : Int, (mn ((t128.extract (x5_1 : Int).toNat (x7_1 : Int).toNat).size : Int) (wrap64 ((((rd_T25 t124 0).f0).size : Int) + 1))) = j_ := ⟨_, rfl⟩
                          replace H : (if 0 ≤ (ji27) then (if (ji27) ≤ ((t128.extract (x5_1 : Int).toNat (x7_1 : Int).toNat).size : Int) then ((PA.bulletinref01_Words.f k1 ((t128.extract (x5_1 : Int).toNat (x7_1 : Int).toNat).extract ((ji27) : Int).toNat (t128.extract (x5_1 : Int).toNat (x7_1 : Int).toNat).size)).bind fun t135 => (bulletinlaw09_FieldWidths.j1 k1 t128 x5_1 x6_1 x7_1 (t128.extract (x5_1 : Int).toNat (x7_1 : Int).toNat) (t135.length : Int) ((rd_T25 t124 0).f0) ((rd_T25 t124 0).f1))) else (none)) else (none)) = some r := by first | (rw [hji27] at H; exact H) | (simp only [hji27] at H ⊢; exact H)
                          have hji27_ : (if (wrap64 ((((rd_T25 t124 0).f0).size : Int) + 1)) < ((t128.extract (x5_1 : Int).toNat (x7_1 : Int).toNat).size : Int) then (wrap64 ((((rd_T25 t124 0).f0).size : Int) + 1)) else ((t128.extract (x5_1 : Int).toNat (x7_1 : Int).toNat).size : Int)) = ji27 := hji27
                          by_cases c28 : 0 ≤ (ji27)
                          · rw [if_pos c28] at H
                            have c28b0 := eq_true c28
                            have c28b1 : decide (0 ≤ (ji27)) = true := decide_eq_true c28
                            clear c28
                            by_cases c29 : (ji27) ≤ ((t128.extract (x5_1 : Int).toNat (x7_1 : Int).toNat).size : Int)
                            · rw [if_pos c29] at H
                              have c29b0 := eq_true c29
                              have c29b1 : decide ((ji27) ≤ ((t128.extract (x5_1 : Int).toNat (x7_1 : Int).toNat).size : Int)) = true := decide_eq_true c29
                              clear c29
                              replace H := Option.bind_eq_some_iff.mp H
                              obtain ⟨t135, A300, H⟩ := H
                              replace H : (bulletinlaw09_FieldWidths.j1 k1 t128 x5_1 x6_1 x7_1 (t128.extract (x5_1 : Int).toNat (x7_1 : Int).toNat) (t135.length : Int) ((rd_T25 t124 0).f0) ((rd_T25 t124 0).f1)) = some r := H
                              have A30 := Aside0.mk A300
                              clear A300
                              have H' := Aside0.mk H
                              clear H
                              have hcz31_0 : w24.cell? ⟨gb120, 0, none⟩ = some (.string ((rd_T25 t124 0).f0)) := (blk_cell BK120.out 0).trans rfl
                              have hcz31_1 : w24.cell? ⟨gb120, 1, none⟩ = some (.string ((rd_T25 t124 0).f1)) := (blk_cell BK120.out 1).trans rfl
                              have hfz31_0 := blk_frozen BK120.out 0
                              have hfz31_1 := blk_frozen BK120.out 1
                              generalize t128.extract (x5_1 : Int).toNat (x7_1 : Int).toNat = ln_ at *
                              go_wp2_with (first | ((with_reducible refine gate_callee (f := 19) rfl ?_); refine goesL_ (some 60) rfl rfl Try.func19 (by kernel_rfl) rfl #[.string (ln_.extract ((ji27) : Int).toNat ln_.size)] rfl (by (try simp only [List.map_toArray, List.map_cons, List.map_nil]); first | done | (simp only [hji27]; rfl) | rfl | (simp only [List.length_drop, List.length_take]; rfl)) ?_; (with_reducible refine (PA.bulletinref01_Words.calls k1 (ln_.extract ((ji27) : Int).toNat ln_.size) t135 _ A30.out).mono ?_); rintro e w32 ⟨v136, rfl, ho0, hb⟩; refine ⟨_, rfl, ?_⟩; have n0_ := Aside0.mk (Kd.R_elder' (by (with_reducible repeat (first | apply Kd.R_alloc | apply Kd.R_drewN | apply Kd.R_drew)); exact HO134.out) (Kd.R_base ho0) hb); have n1_ := Aside0.mk (Kd.R_lower (Kd.R_new' ho0 (Kd.R_lt (by (with_reducible repeat (first | apply Kd.R_alloc | apply Kd.R_drewN | apply Kd.R_drew)); exact HO134.out))) (below_size (by repeat (first | (with_reducible first | exact HB.out | apply below_alloc | apply pw_below_drewN | apply below_drew1 | refine below_set ?_ GE120.out) | exact HB.out)))); have n2_ := Aside0.mk (blk_below (g := gb120) (o := .cells #[.string ((rd_T25 t124 0).f0), .string ((rd_T25 t124 0).f1)] 25 (0, 0)) (by (with_reducible repeat (first | refine blk_drewN ?_ _ | refine blk_drew ?_ | refine blk_alloc ?_ _)); exact BK120.out) hb); have n3_ := Aside0.mk (below_step (by repeat (first | (with_reducible first | exact HB.out | apply below_alloc | apply pw_below_drewN | apply below_drew1 | refine below_set ?_ GE120.out) | exact HB.out)) hb); clear HO134; clear BK120; clear HB; have HO134 := n0_; have HO137 := n1_; have BK120 := n2_; have HB := n3_; clear n0_ n1_ n2_ n3_; (try clear hb); (try clear hb2); (try clear hk); (try clear hi); (try clear ho0); obtain ⟨Ao33, co33, eo33⟩ := Kd.R_slice HO137.out; subst eo33))
                              go_meet
                              case rel => exact ⟨_, ((t135.length : Int)), (by first | rfl | (simp; done) | (simp [*]; done)), H', ⟨by have := HK1.out; first | omega | exact Nat.le_refl _⟩, ⟨by (with_reducible repeat (first | refine blk_drewN ?_ _ | refine blk_drew ?_ | refine blk_alloc ?_ _)); exact BK120.out⟩, ⟨by repeat (first | (with_reducible first | exact HB.out | apply below_alloc | apply pw_below_drewN | apply below_drew1 | refine below_set ?_ GE120.out) | exact HB.out)⟩⟩
                            · rw [if_neg c29] at H
                              exact absurd H (by simp)
                          · rw [if_neg c28] at H
                            exact absurd H (by simp)
                        · rw [if_neg c26] at H
                          have c26b0 : (x5_1 == 0) = false := beq_eq_false_iff_ne.mpr c26
                          have c26b1 : (x5_1 != 0) = true := bne_iff_ne.mpr c26
                          (first | rw [c26b0] | (simp only [i64_w, i32_w]; rw [c26b0]) | skip)
                          have H' := Aside0.mk H
                          clear H
                          go_wp2
                          go_meet
                          case rel => exact ⟨_, ((t132.length : Int)), (by first | rfl | (simp; done) | (simp [*]; done)), H', ⟨by have := HK1.out; first | omega | exact Nat.le_refl _⟩, ⟨by (with_reducible repeat (first | refine blk_drewN ?_ _ | refine blk_drew ?_ | refine blk_alloc ?_ _)); exact BK120.out⟩, ⟨by repeat (first | (with_reducible first | exact HB.out | apply below_alloc | apply pw_below_drewN | apply below_drew1 | refine below_set ?_ GE120.out) | exact HB.out)⟩⟩
                      case rest =>
                        clear HC23
                        try clear c1
                        try clear p1
                        try clear q1
                        try clear hx1
                        try clear qi1
                        try clear c2
                        try clear p2
                        try clear c3
                        try clear c3b0
                        try clear c3b1
                        try clear c5
                        try clear c5b0
                        try clear c5b1
                        try clear p6
                        try clear p12
                        try clear q12
                        try clear hx12
                        try clear qi12
                        try clear c14
                        try clear c15
                        try clear c15b0
                        try clear c16
                        try clear c16b0
                        try clear p17
                        try clear q17
                        try clear hx17
                        try clear c18
                        try clear c18b0
                        try clear c18b1
                        try clear c19
                        try clear c19b0
                        try clear c19b1
                        try clear c20
                        try clear c20b0
                        try clear c20b1
                        try clear c21
                        try clear c21b0
                        try clear c21b1
                        try clear c26
                        try clear c26b0
                        try clear c26b1
                        try clear c28
                        try clear c28b0
                        try clear c28b1
                        try clear c29
                        try clear c29b0
                        try clear c29b1
                        try clear hcz13_0
                        try clear hcz13_1
                        try clear hcz31_0
                        try clear hcz31_1
                        try clear hcz7_0
                        try clear hcz7_1
                        try clear hfz13_0
                        try clear hfz13_1
                        try clear hfz31_0
                        try clear hfz31_1
                        try clear hfz7_0
                        try clear hfz7_1
                        try clear hx127_0
                        try clear hx127_1
                        try clear p1
                        try clear p12
                        try clear p127
                        try clear p17
                        try clear p2
                        try clear q1
                        try clear q12
                        try clear q127
                        try clear q17
                        obtain ⟨kq, x9_22, rfl, HA, HJ22, BK120, HB⟩ := hcut
                        generalize t128.extract (x5_1 : Int).toNat (x7_1 : Int).toNat = ln_ at *
                        cases kq with
                        | zero => exact absurd HA.out (by simp [bulletinlaw09_FieldWidths.j1])
                        | succ kj22 =>
                          have H := HA.out
                          clear HA
                          simp only [bulletinlaw09_FieldWidths.j1] at H
                          have HC34 := Aside0.mk H
                          clear H
                          go_upto_region 14 with (fail)
                          go_cut [68] (fun v68 wc => ∃ (kq : Nat) (x68_33 : Bool), v68 = .bool x68_33 ∧ Aside0 (bulletinlaw09_FieldWidths.j2 kq t128 x5_1 x6_1 x7_1 ln_ x68_33 ((rd_T25 t124 0).f0) ((rd_T25 t124 0).f1) = some r) ∧ Aside0 (kq ≤ kj22) ∧ Aside0 (wc.heap[gb120]? = some (.cells #[.string ((rd_T25 t124 0).f0), .string ((rd_T25 t124 0).f1)] 25 (0, 0))) ∧ Aside0 (Below w.heap.size w wc))
                          case first =>
                            have H := HC34.out
                            clear HC34
                            by_cases c35 : (ln_.size : Int) > 78
                            · rw [if_pos c35] at H
                              have c35b0 : decide (78 < (ln_.size : Int)) = true := decide_eq_true c35
                              have c35b1 : decide (78 < ln_.size) = true := decide_eq_true (by omega)
                              clear c35
                              (first | rw [c35b0] | (simp only [i64_w, i32_w]; rw [c35b0]) | skip)
                              have H' := Aside0.mk H
                              clear H
                              go_wp2
                              go_meet
                              case rel => exact ⟨_, (decide (x9_22 > 1)), (by first | rfl | (simp; done) | (simp [*]; done)), H', ⟨by have := HK1.out; have := HJ22.out; first | omega | exact Nat.le_refl _⟩, ⟨by (with_reducible repeat (first | refine blk_drewN ?_ _ | refine blk_drew ?_ | refine blk_alloc ?_ _)); exact BK120.out⟩, ⟨by repeat (first | (with_reducible first | exact HB.out | apply below_alloc | apply pw_below_drewN | apply below_drew1 | refine below_set ?_ GE120.out) | exact HB.out)⟩⟩
                            · rw [if_neg c35] at H
                              have c35b0 : decide (78 < (ln_.size : Int)) = false := decide_eq_false c35
                              have c35b1 : decide (78 < ln_.size) = false := decide_eq_false (by omega)
                              clear c35
                              (first | rw [c35b0] | (simp only [i64_w, i32_w]; rw [c35b0]) | skip)
                              have H' := Aside0.mk H
                              clear H
                              go_wp2
                              go_meet
                              case rel => exact ⟨_, (false), (by first | rfl | (simp; done) | (simp [*]; done)), H', ⟨by have := HK1.out; have := HJ22.out; first | omega | exact Nat.le_refl _⟩, ⟨by (with_reducible repeat (first | refine blk_drewN ?_ _ | refine blk_drew ?_ | refine blk_alloc ?_ _)); exact BK120.out⟩, ⟨by repeat (first | (with_reducible first | exact HB.out | apply below_alloc | apply pw_below_drewN | apply below_drew1 | refine below_set ?_ GE120.out) | exact HB.out)⟩⟩
                          case rest =>
                            clear HC34
                            try clear c1
                            try clear p1
                            try clear q1
                            try clear hx1
                            try clear qi1
                            try clear c2
                            try clear p2
                            try clear c3
                            try clear c3b0
                            try clear c3b1
                            try clear c5
                            try clear c5b0
                            try clear c5b1
                            try clear p6
                            try clear p12
                            try clear q12
                            try clear hx12
                            try clear qi12
                            try clear c14
                            try clear c15
                            try clear c15b0
                            try clear c16
                            try clear c16b0
                            try clear p17
                            try clear q17
                            try clear hx17
                            try clear c18
                            try clear c18b0
                            try clear c18b1
                            try clear c19
                            try clear c19b0
                            try clear c19b1
                            try clear c20
                            try clear c20b0
                            try clear c20b1
                            try clear c21
                            try clear c21b0
                            try clear c21b1
                            try clear c26
                            try clear c26b0
                            try clear c26b1
                            try clear c28
                            try clear c28b0
                            try clear c28b1
                            try clear c29
                            try clear c29b0
                            try clear c29b1
                            try clear c35
                            try clear c35b0
                            try clear c35b1
                            try clear hcz13_0
                            try clear hcz13_1
                            try clear hcz31_0
                            try clear hcz31_1
                            try clear hcz7_0
                            try clear hcz7_1
                            try clear hfz13_0
                            try clear hfz13_1
                            try clear hfz31_0
                            try clear hfz31_1
                            try clear hfz7_0
                            try clear hfz7_1
                            try clear hx127_0
                            try clear hx127_1
                            try clear p1
                            try clear p12
                            try clear p127
                            try clear p17
                            try clear p2
                            try clear p6
                            try clear q1
                            try clear q12
                            try clear q127
                            try clear q17
                            obtain ⟨kq, x68_33, rfl, HA, HJ33, BK120, HB⟩ := hcut
                            cases kq with
                            | zero => exact absurd HA.out (by simp [bulletinlaw09_FieldWidths.j2])
                            | succ kj33 =>
                              have H := HA.out
                              clear HA
                              simp only [bulletinlaw09_FieldWidths.j2] at H
                              by_cases c36 : x68_33 = true
                              · subst c36
                                have H1 : (some false) = some r := by rw [if_pos rfl] at H; exact H
                                clear H
                                have H := H1
                                clear H1
                                obtain rfl := Option.some.inj H
                                go_wp2
                                go_ret
                                exact ⟨by first | rfl | (simp [errW_none, errW_some] <;> rfl) | (simp [*, errW_none, errW_some] <;> rfl), by repeat (first | (with_reducible first | exact HB.out | apply below_alloc | apply pw_below_drewN | apply below_drew1 | refine below_set ?_ GE120.out) | exact HB.out)⟩
                              · replace c36 := Bool.eq_false_iff.mpr c36
                                subst c36
                                have H1 : (if x5_1 > 0 then ((PA.bulletinref01_Words.f kj33 ln_).bind fun t138 => (if (t138.length : Int) = 0 then (some false) else (if 0 < (t138.length : Int) then (if (wrap64 ((wrap64 (x6_1 + 1)) + ((rdOf ByteArray.empty t138 0).size : Int))) ≤ 78 then (some false) else (if 0 < (ln_.size : Int) then (if (bt ln_ 0) = 32 then (bulletinlaw09_FieldWidths.l0 kj33 t128 (wrap64 (x7_1 + 1)) (ln_.size : Int) (wrap64 (x7_1 + 1)) ((rd_T25 t124 0).f0) ((rd_T25 t124 0).f1)) else (some false)) else (none))) else (none)))) else (bulletinlaw09_FieldWidths.l0 kj33 t128 (wrap64 (x7_1 + 1)) (ln_.size : Int) (wrap64 (x7_1 + 1)) ((rd_T25 t124 0).f0) ((rd_T25 t124 0).f1))) = some r := by rw [if_neg (show ¬ (false = true) by decide)] at H; exact H
                                clear H
                                have H := H1
                                clear H1
                                by_cases c37 : x5_1 > 0
                                · rw [if_pos c37] at H
                                  have c37b0 : decide (0 < x5_1) = true := decide_eq_true c37
                                  clear c37
                                  replace H := Option.bind_eq_some_iff.mp H
                                  obtain ⟨t138, A380, H⟩ := H
                                  replace H : (if (t138.length : Int) = 0 then (some false) else (if 0 < (t138.length : Int) then (if (wrap64 ((wrap64 (x6_1 + 1)) + ((rdOf ByteArray.empty t138 0).size : Int))) ≤ 78 then (some false) else (if 0 < (ln_.size : Int) then (if (bt ln_ 0) = 32 then (bulletinlaw09_FieldWidths.l0 kj33 t128 (wrap64 (x7_1 + 1)) (ln_.size : Int) (wrap64 (x7_1 + 1)) ((rd_T25 t124 0).f0) ((rd_T25 t124 0).f1)) else (some false)) else (none))) else (none))) = some r := H
                                  have A38 := Aside0.mk A380
                                  clear A380
                                  by_cases c39 : (t138.length : Int) = 0
                                  · rw [if_pos c39] at H
                                    have c39b0 : ((t138.length : Int) == 0) = true := beq_iff_eq.mpr c39
                                    have c39b1 : ((t138.length : Int) != 0) = false := bne_eq_false_iff_eq.mpr c39
                                    clear c39
                                    obtain rfl := Option.some.inj H
                                    go_wp2_with (first | ((with_reducible refine gate_callee (f := 19) rfl ?_); refine goesL_ (some 72) rfl rfl Try.func19 (by kernel_rfl) rfl #[.string ln_] rfl (by (try simp only [List.map_toArray, List.map_cons, List.map_nil]); first | done | rfl | (simp only [List.length_drop, List.length_take]; rfl)) ?_; (with_reducible refine (PA.bulletinref01_Words.calls kj33 ln_ t138 _ A38.out).mono ?_); rintro e w40 ⟨v139, rfl, ho0, hb⟩; refine ⟨_, rfl, ?_⟩; have n0_ := Aside0.mk (Kd.R_lower ho0 (below_size (by repeat (first | (with_reducible first | exact HB.out | apply below_alloc | apply pw_below_drewN | apply below_drew1 | refine below_set ?_ GE120.out) | exact HB.out)))); have n1_ := Aside0.mk (blk_below (g := gb120) (o := .cells #[.string ((rd_T25 t124 0).f0), .string ((rd_T25 t124 0).f1)] 25 (0, 0)) (by (with_reducible repeat (first | refine blk_drewN ?_ _ | refine blk_drew ?_ | refine blk_alloc ?_ _)); exact BK120.out) hb); have n2_ := Aside0.mk (below_step (by repeat (first | (with_reducible first | exact HB.out | apply below_alloc | apply pw_below_drewN | apply below_drew1 | refine below_set ?_ GE120.out) | exact HB.out)) hb); clear BK120; clear HB; have HO140 := n0_; have BK120 := n1_; have HB := n2_; clear n0_ n1_ n2_; (try clear hb); (try clear hb2); (try clear hk); (try clear hi); (try clear ho0); obtain ⟨Ao41, co41, eo41⟩ := Kd.R_slice HO140.out; subst eo41))
                                    go_ret
                                    exact ⟨by first | rfl | (simp [errW_none, errW_some] <;> rfl) | (simp [*, errW_none, errW_some] <;> rfl), by repeat (first | (with_reducible first | exact HB.out | apply below_alloc | apply pw_below_drewN | apply below_drew1 | refine below_set ?_ GE120.out) | exact HB.out)⟩
                                  · rw [if_neg c39] at H
                                    have c39b0 : ((t138.length : Int) == 0) = false := beq_eq_false_iff_ne.mpr c39
                                    have c39b1 : ((t138.length : Int) != 0) = true := bne_iff_ne.mpr c39
                                    have c39b2 : ¬ (t138 = []) := fun h_ => c39 (by rw [h_]; rfl)
                                    by_cases c42 : 0 < (t138.length : Int)
                                    · rw [if_pos c42] at H
                                      have c42b0 : decide (0 < (t138.length : Int)) = true := decide_eq_true c42
                                      have c42b1 : decide (0 < t138.length) = true := decide_eq_true (by omega)
                                      clear c42
                                      by_cases c43 : (wrap64 ((wrap64 (x6_1 + 1)) + ((rdOf ByteArray.empty t138 0).size : Int))) ≤ 78
                                      · rw [if_pos c43] at H
                                        have c43b0 : decide ((wrap64 ((wrap64 (x6_1 + 1)) + ((rdOf ByteArray.empty t138 0).size : Int))) ≤ 78) = true := decide_eq_true c43
                                        clear c43
                                        obtain rfl := Option.some.inj H
                                        go_wp2_with (first | ((with_reducible refine gate_callee (f := 19) rfl ?_); refine goesL_ (some 72) rfl rfl Try.func19 (by kernel_rfl) rfl #[.string ln_] rfl (by (try simp only [List.map_toArray, List.map_cons, List.map_nil]); first | done | rfl | (simp only [List.length_drop, List.length_take]; rfl)) ?_; (with_reducible refine (PA.bulletinref01_Words.calls kj33 ln_ t138 _ A38.out).mono ?_); rintro e w44 ⟨v139, rfl, ho0, hb⟩; refine ⟨_, rfl, ?_⟩; have n0_ := Aside0.mk (Kd.R_lower ho0 (below_size (by repeat (first | (with_reducible first | exact HB.out | apply below_alloc | apply pw_below_drewN | apply below_drew1 | refine below_set ?_ GE120.out) | exact HB.out)))); have n1_ := Aside0.mk (blk_below (g := gb120) (o := .cells #[.string ((rd_T25 t124 0).f0), .string ((rd_T25 t124 0).f1)] 25 (0, 0)) (by (with_reducible repeat (first | refine blk_drewN ?_ _ | refine blk_drew ?_ | refine blk_alloc ?_ _)); exact BK120.out) hb); have n2_ := Aside0.mk (below_step (by repeat (first | (with_reducible first | exact HB.out | apply below_alloc | apply pw_below_drewN | apply below_drew1 | refine below_set ?_ GE120.out) | exact HB.out)) hb); clear BK120; clear HB; have HO140 := n0_; have BK120 := n1_; have HB := n2_; clear n0_ n1_ n2_; (try clear hb); (try clear hb2); (try clear hk); (try clear hi); (try clear ho0); obtain ⟨Ao45, co45, eo45⟩ := Kd.R_slice HO140.out; subst eo45; have p141 : 0 ≤ (0 : Int) := (by omega); have q141 : 0 < (t138.length : Int) := of_decide_eq_true (by first | (with_reducible assumption) | assumption); obtain ⟨ad141, e141, hx141_0⟩ := Kd.at_string (Kd.R_reads' HO140.out).2.2 0 p141 q141; cases e141; have qi141 : (0 < t138.length) = True := eq_true (by omega); (try rw [show ((0 : Int)).toNat = 0 from rfl] at hx141_0); (try rw [Addr.add_zero'] at hx141_0); replace p141 := eq_true p141; replace q141 := eq_true q141))
                                        go_ret
                                        exact ⟨by first | rfl | (simp [errW_none, errW_some] <;> rfl) | (simp [*, errW_none, errW_some] <;> rfl), by repeat (first | (with_reducible first | exact HB.out | apply below_alloc | apply pw_below_drewN | apply below_drew1 | refine below_set ?_ GE120.out) | exact HB.out)⟩
                                      · rw [if_neg c43] at H
                                        have c43b0 : decide ((wrap64 ((wrap64 (x6_1 + 1)) + ((rdOf ByteArray.empty t138 0).size : Int))) ≤ 78) = false := decide_eq_false c43
                                        clear c43
                                        by_cases c46 : 0 < (ln_.size : Int)
                                        · rw [if_pos c46] at H
                                          have c46b0 : decide (0 < (ln_.size : Int)) = true := decide_eq_true c46
                                          have c46b1 : decide (0 < ln_.size) = true := decide_eq_true (by omega)
                                          clear c46
                                          by_cases c48 : (bt ln_ 0) = 32
                                          · rw [if_pos c48] at H
                                            have c48b0 : ((bt ln_ 0) == 32) = true := beq_iff_eq.mpr c48
                                            have c48b1 : ((bt ln_ 0) != 32) = false := bne_eq_false_iff_eq.mpr c48
                                            clear c48
                                            have H' := Aside0.mk H
                                            clear H
                                            go_wp2_with (first | ((with_reducible refine gate_callee (f := 19) rfl ?_); refine goesL_ (some 72) rfl rfl Try.func19 (by kernel_rfl) rfl #[.string ln_] rfl (by (try simp only [List.map_toArray, List.map_cons, List.map_nil]); first | done | rfl | (simp only [List.length_drop, List.length_take]; rfl)) ?_; (with_reducible refine (PA.bulletinref01_Words.calls kj33 ln_ t138 _ A38.out).mono ?_); rintro e w49 ⟨v139, rfl, ho0, hb⟩; refine ⟨_, rfl, ?_⟩; have n0_ := Aside0.mk (Kd.R_lower ho0 (below_size (by repeat (first | (with_reducible first | exact HB.out | apply below_alloc | apply pw_below_drewN | apply below_drew1 | refine below_set ?_ GE120.out) | exact HB.out)))); have n1_ := Aside0.mk (blk_below (g := gb120) (o := .cells #[.string ((rd_T25 t124 0).f0), .string ((rd_T25 t124 0).f1)] 25 (0, 0)) (by (with_reducible repeat (first | refine blk_drewN ?_ _ | refine blk_drew ?_ | refine blk_alloc ?_ _)); exact BK120.out) hb); have n2_ := Aside0.mk (below_step (by repeat (first | (with_reducible first | exact HB.out | apply below_alloc | apply pw_below_drewN | apply below_drew1 | refine below_set ?_ GE120.out) | exact HB.out)) hb); clear BK120; clear HB; have HO140 := n0_; have BK120 := n1_; have HB := n2_; clear n0_ n1_ n2_; (try clear hb); (try clear hb2); (try clear hk); (try clear hi); (try clear ho0); obtain ⟨Ao50, co50, eo50⟩ := Kd.R_slice HO140.out; subst eo50; have p141 : 0 ≤ (0 : Int) := (by omega); have q141 : 0 < (t138.length : Int) := of_decide_eq_true (by first | (with_reducible assumption) | assumption); obtain ⟨ad141, e141, hx141_0⟩ := Kd.at_string (Kd.R_reads' HO140.out).2.2 0 p141 q141; cases e141; have qi141 : (0 < t138.length) = True := eq_true (by omega); (try rw [show ((0 : Int)).toNat = 0 from rfl] at hx141_0); (try rw [Addr.add_zero'] at hx141_0); replace p141 := eq_true p141; replace q141 := eq_true q141; have p47 : 0 ≤ (0 : Int) := (by omega); have q47 : 0 < ln_.size := (by have : (0 : Int) < (ln_.size : Int) := of_decide_eq_true (by first | (with_reducible assumption) | assumption); omega); have hx47 : ∀ h : 0 < ln_.size, ((ln_[0]'h).toNat : Int) = bt ln_ 0 := bt_at ln_ 0; clear p47; have qi47 : (0 < (ln_.size : Int)) = True := eq_true (of_decide_eq_true (by first | (with_reducible assumption) | assumption)); replace q47 := eq_true q47))
                                            go_roundg kj33
                                            case measure => have := HK1.out; have := HJ22.out; have := HJ33.out; omega
                                            case rel => exact ⟨(wrap64 (x7_1 + 1)), ((ln_.size : Int)), (wrap64 (x7_1 + 1)), (by first | rfl | (simp; done) | (simp [*]; done)), (by first | rfl | (simp; done) | (simp [*]; done)), (by first | rfl | (simp; done) | (simp [*]; done)), H', ⟨by have := HK1.out; have := HJ22.out; have := HJ33.out; omega⟩, ⟨by (with_reducible repeat (first | refine blk_drewN ?_ _ | refine blk_drew ?_ | refine blk_alloc ?_ _)); exact BK120.out⟩, ⟨by repeat (first | (with_reducible first | exact HB.out | apply below_alloc | apply pw_below_drewN | apply below_drew1 | refine below_set ?_ GE120.out) | exact HB.out)⟩⟩
                                          · rw [if_neg c48] at H
                                            have c48b0 : ((bt ln_ 0) == 32) = false := beq_eq_false_iff_ne.mpr c48
                                            have c48b1 : ((bt ln_ 0) != 32) = true := bne_iff_ne.mpr c48
                                            obtain rfl := Option.some.inj H
                                            go_wp2_with (first | ((with_reducible refine gate_callee (f := 19) rfl ?_); refine goesL_ (some 72) rfl rfl Try.func19 (by kernel_rfl) rfl #[.string ln_] rfl (by (try simp only [List.map_toArray, List.map_cons, List.map_nil]); first | done | rfl | (simp only [List.length_drop, List.length_take]; rfl)) ?_; (with_reducible refine (PA.bulletinref01_Words.calls kj33 ln_ t138 _ A38.out).mono ?_); rintro e w51 ⟨v139, rfl, ho0, hb⟩; refine ⟨_, rfl, ?_⟩; have n0_ := Aside0.mk (Kd.R_lower ho0 (below_size (by repeat (first | (with_reducible first | exact HB.out | apply below_alloc | apply pw_below_drewN | apply below_drew1 | refine below_set ?_ GE120.out) | exact HB.out)))); have n1_ := Aside0.mk (blk_below (g := gb120) (o := .cells #[.string ((rd_T25 t124 0).f0), .string ((rd_T25 t124 0).f1)] 25 (0, 0)) (by (with_reducible repeat (first | refine blk_drewN ?_ _ | refine blk_drew ?_ | refine blk_alloc ?_ _)); exact BK120.out) hb); have n2_ := Aside0.mk (below_step (by repeat (first | (with_reducible first | exact HB.out | apply below_alloc | apply pw_below_drewN | apply below_drew1 | refine below_set ?_ GE120.out) | exact HB.out)) hb); clear BK120; clear HB; have HO140 := n0_; have BK120 := n1_; have HB := n2_; clear n0_ n1_ n2_; (try clear hb); (try clear hb2); (try clear hk); (try clear hi); (try clear ho0); obtain ⟨Ao52, co52, eo52⟩ := Kd.R_slice HO140.out; subst eo52; have p141 : 0 ≤ (0 : Int) := (by omega); have q141 : 0 < (t138.length : Int) := of_decide_eq_true (by first | (with_reducible assumption) | assumption); obtain ⟨ad141, e141, hx141_0⟩ := Kd.at_string (Kd.R_reads' HO140.out).2.2 0 p141 q141; cases e141; have qi141 : (0 < t138.length) = True := eq_true (by omega); (try rw [show ((0 : Int)).toNat = 0 from rfl] at hx141_0); (try rw [Addr.add_zero'] at hx141_0); replace p141 := eq_true p141; replace q141 := eq_true q141; have p47 : 0 ≤ (0 : Int) := (by omega); have q47 : 0 < ln_.size := (by have : (0 : Int) < (ln_.size : Int) := of_decide_eq_true (by first | (with_reducible assumption) | assumption); omega); have hx47 : ∀ h : 0 < ln_.size, ((ln_[0]'h).toNat : Int) = bt ln_ 0 := bt_at ln_ 0; clear p47; have qi47 : (0 < (ln_.size : Int)) = True := eq_true (of_decide_eq_true (by first | (with_reducible assumption) | assumption)); replace q47 := eq_true q47))
                                            go_ret
                                            exact ⟨by first | rfl | (simp [errW_none, errW_some] <;> rfl) | (simp [*, errW_none, errW_some] <;> rfl), by repeat (first | (with_reducible first | exact HB.out | apply below_alloc | apply pw_below_drewN | apply below_drew1 | refine below_set ?_ GE120.out) | exact HB.out)⟩
                                        · rw [if_neg c46] at H
                                          exact absurd H (by simp)
                                    · rw [if_neg c42] at H
                                      exact absurd H (by simp)
                                · rw [if_neg c37] at H
                                  have c37b0 : decide (0 < x5_1) = false := decide_eq_false c37
                                  clear c37
                                  have H' := Aside0.mk H
                                  clear H
                                  go_wp2
                                  go_roundg kj33
                                  case measure => have := HK1.out; have := HJ22.out; have := HJ33.out; omega
                                  case rel => exact ⟨(wrap64 (x7_1 + 1)), ((ln_.size : Int)), (wrap64 (x7_1 + 1)), (by first | rfl | (simp; done) | (simp [*]; done)), (by first | rfl | (simp; done) | (simp [*]; done)), (by first | rfl | (simp; done) | (simp [*]; done)), H', ⟨by have := HK1.out; have := HJ22.out; have := HJ33.out; omega⟩, ⟨by (with_reducible repeat (first | refine blk_drewN ?_ _ | refine blk_drew ?_ | refine blk_alloc ?_ _)); exact BK120.out⟩, ⟨by repeat (first | (with_reducible first | exact HB.out | apply below_alloc | apply pw_below_drewN | apply below_drew1 | refine below_set ?_ GE120.out) | exact HB.out)⟩⟩
                    · rw [if_neg c21] at H
                      exact absurd H (by simp)
                  · rw [if_neg c20] at H
                    exact absurd H (by simp)
                · rw [if_neg c19] at H
                  exact absurd H (by simp)
              · rw [if_neg c18] at H
                have c18b0 : ((bt t128 x7_1) == 10) = false := beq_eq_false_iff_ne.mpr c18
                have c18b1 : ((bt t128 x7_1) != 10) = true := bne_iff_ne.mpr c18
                have H' := Aside0.mk H
                clear H
                have p17 : 0 ≤ (x7_1 : Int) := of_decide_eq_true (by first | (with_reducible assumption) | assumption)
                have q17 : x7_1 < (t128.size : Int) := of_decide_eq_true (by first | (with_reducible assumption) | assumption)
                have hx17 := bt_at t128 x7_1
                replace p17 := eq_true p17
                replace q17 := eq_true q17
                go_wp2
                go_roundg k1
                case measure => have := HK1.out; omega
                case rel => exact ⟨(x5_1), (x6_1), (wrap64 (x7_1 + 1)), (by first | rfl | (simp; done) | (simp [*]; done)), (by first | rfl | (simp; done) | (simp [*]; done)), (by first | rfl | (simp; done) | (simp [*]; done)), H', ⟨by have := HK1.out; omega⟩, ⟨by (with_reducible repeat (first | refine blk_drewN ?_ _ | refine blk_drew ?_ | refine blk_alloc ?_ _)); exact BK120.out⟩, ⟨by repeat (first | (with_reducible first | exact HB.out | apply below_alloc | apply pw_below_drewN | apply below_drew1 | refine below_set ?_ GE120.out) | exact HB.out)⟩⟩
            · rw [if_neg c16] at H
              exact absurd H (by simp)
          · rw [if_neg c15] at H
            have c15b0 : decide (x7_1 < (t128.size : Int)) = false := decide_eq_false c15
            clear c15
            replace H := Option.bind_eq_some_iff.mp H
            obtain ⟨t131, A530, H⟩ := H
            replace H : (if t131 = true then (some (x5_1 == (t128.size : Int))) else (some false)) = some r := H
            have A53 := Aside0.mk A530
            clear A530
            by_cases c54 : t131 = true
            · subst c54
              have H1 : (some (x5_1 == (t128.size : Int))) = some r := by rw [if_pos rfl] at H; exact H
              clear H
              have H := H1
              clear H1
              obtain rfl := Option.some.inj H
              go_wp2_with (first | ((with_reducible refine gate_callee (f := 11) rfl ?_); refine goesL_ (some 95) rfl rfl Try.func11 (by kernel_rfl) rfl #[] rfl (by (try simp only [List.map_toArray, List.map_cons, List.map_nil]); first | done | rfl | (simp only [List.length_drop, List.length_take]; rfl)) ?_; (with_reducible refine (GV.known.calls  true _ ?side1 A53.out).mono ?_); (case side1 => exact gm_at HGM.out (by repeat (first | (with_reducible first | exact HB.out | apply below_alloc | apply pw_below_drewN | apply below_drew1 | refine below_set ?_ GE120.out) | exact HB.out))); rintro e w55 ⟨rfl, hb⟩; refine ⟨_, rfl, ?_⟩; have n0_ := Aside0.mk (blk_below (g := gb120) (o := .cells #[.string ((rd_T25 t124 0).f0), .string ((rd_T25 t124 0).f1)] 25 (0, 0)) (by (with_reducible repeat (first | refine blk_drewN ?_ _ | refine blk_drew ?_ | refine blk_alloc ?_ _)); exact BK120.out) hb); have n1_ := Aside0.mk (below_step (by repeat (first | (with_reducible first | exact HB.out | apply below_alloc | apply pw_below_drewN | apply below_drew1 | refine below_set ?_ GE120.out) | exact HB.out)) hb); clear BK120; clear HB; have BK120 := n0_; have HB := n1_; clear n0_ n1_; (try clear hb); (try clear hb2); (try clear hk); (try clear hi)))
              go_ret
              exact ⟨by first | rfl | (simp [errW_none, errW_some] <;> rfl) | (simp [*, errW_none, errW_some] <;> rfl), by repeat (first | (with_reducible first | exact HB.out | apply below_alloc | apply pw_below_drewN | apply below_drew1 | refine below_set ?_ GE120.out) | exact HB.out)⟩
            · replace c54 := Bool.eq_false_iff.mpr c54
              subst c54
              have H1 : (some false) = some r := by rw [if_neg (show ¬ (false = true) by decide)] at H; exact H
              clear H
              have H := H1
              clear H1
              obtain rfl := Option.some.inj H
              go_wp2_with (first | ((with_reducible refine gate_callee (f := 11) rfl ?_); refine goesL_ (some 95) rfl rfl Try.func11 (by kernel_rfl) rfl #[] rfl (by (try simp only [List.map_toArray, List.map_cons, List.map_nil]); first | done | rfl | (simp only [List.length_drop, List.length_take]; rfl)) ?_; (with_reducible refine (GV.known.calls  false _ ?side1 A53.out).mono ?_); (case side1 => exact gm_at HGM.out (by repeat (first | (with_reducible first | exact HB.out | apply below_alloc | apply pw_below_drewN | apply below_drew1 | refine below_set ?_ GE120.out) | exact HB.out))); rintro e w56 ⟨rfl, hb⟩; refine ⟨_, rfl, ?_⟩; have n0_ := Aside0.mk (blk_below (g := gb120) (o := .cells #[.string ((rd_T25 t124 0).f0), .string ((rd_T25 t124 0).f1)] 25 (0, 0)) (by (with_reducible repeat (first | refine blk_drewN ?_ _ | refine blk_drew ?_ | refine blk_alloc ?_ _)); exact BK120.out) hb); have n1_ := Aside0.mk (below_step (by repeat (first | (with_reducible first | exact HB.out | apply below_alloc | apply pw_below_drewN | apply below_drew1 | refine below_set ?_ GE120.out) | exact HB.out)) hb); clear BK120; clear HB; have BK120 := n0_; have HB := n1_; clear n0_ n1_; (try clear hb); (try clear hb2); (try clear hk); (try clear hi)))
              go_ret
              exact ⟨by first | rfl | (simp [errW_none, errW_some] <;> rfl) | (simp [*, errW_none, errW_some] <;> rfl), by repeat (first | (with_reducible first | exact HB.out | apply below_alloc | apply pw_below_drewN | apply below_drew1 | refine below_set ?_ GE120.out) | exact HB.out)⟩
    · rw [if_neg c5] at H
      have c5b0 : (t129 == 0) = false := beq_eq_false_iff_ne.mpr c5
      have c5b1 : (t129 != 0) = true := bne_iff_ne.mpr c5
      replace H := Option.bind_eq_some_iff.mp H
      obtain ⟨t130, A570, H⟩ := H
      replace H : (if t130 = true then (some (t128.toList == ([] : List UInt8))) else (some false)) = some r := H
      have A57 := Aside0.mk A570
      clear A570
      by_cases c58 : t130 = true
      · subst c58
        have H1 : (some (t128.toList == ([] : List UInt8))) = some r := by rw [if_pos rfl] at H; exact H
        clear H
        have H := H1
        clear H1
        obtain rfl := Option.some.inj H
        go_enter Try.func5, Try.ntmps5
        go_wp2_with (first | ((with_reducible refine gate_dst (N := 1) rfl ?_); (try (refine gate_guard (by rfl) ?_; dsimp only)); refine box_event ?hg (N := 1) ?hd (cs := #[.string a0_0, .string a0_1]) (t := 25) ?hr ?_; (case hd => rfl); (case hg => rfl); (case hr => first | (go_simp; done) | (go_simp; rfl)); intro gb120 hg w59 hbox hb; have n0_ := Aside0.mk (below_step (by repeat (first | (with_reducible first | exact HB.out | apply below_alloc | apply pw_below_drewN | apply below_drew1) | exact HB.out)) hb); have n1_ := Aside0.mk (hbox); have n2_ := Aside0.mk ((by rw [hg]; exact (below_size (by repeat (first | (with_reducible first | exact HB.out | apply below_alloc | apply pw_below_drewN | apply below_drew1) | exact HB.out))) : w.heap.size ≤ gb120)); have n3_ := Aside0.mk ((by rw [hg]; exact (below_size (by repeat (first | (with_reducible first | exact HB.out | apply below_alloc | apply pw_below_drewN | apply below_drew1) | exact HB.out))) : w.heap.size ≤ gb120)); clear HB; have HB := n0_; have BK120 := n1_; have GW120 := n2_; have GE120 := n3_; clear n0_ n1_ n2_ n3_; clear hb hbox hg; have hcz60_0 : w59.cell? ⟨gb120, 0, none⟩ = some (.string a0_0) := (blk_cell BK120.out 0).trans rfl; have hcz60_1 : w59.cell? ⟨gb120, 1, none⟩ = some (.string a0_1) := (blk_cell BK120.out 1).trans rfl; have hfz60_0 := blk_frozen BK120.out 0; have hfz60_1 := blk_frozen BK120.out 1) | ((with_reducible refine gate_dst (N := 12) rfl ?_); (try (refine gate_guard (by rfl) ?_; dsimp only)); refine Kd.R_lit k25 _ 25 ?hg (N := 12) ?hd (xs := ([(⟨a0_0, a0_1⟩ : S25)] : List (S25))) (inner := [.string a0_0, .string a0_1]) (ok := fun _ => True) (okp := fun _ => True) ?hr ?hp (fun _ hk => hk) trivial (Below.refl _ _) (Nat.le_refl _) (by simp) ?_; (case hd => rfl); (case hg => rfl); (case hr => first | (go_simp; done) | (go_simp; rfl)); (case hp => exact (Reps.c2 (show Kd.M k25 _ _ _ (⟨a0_0, a0_1⟩ : S25) [.string a0_0, .string a0_1] from (k25_mkM _ _ _ (⟨a0_0, a0_1⟩ : S25) )) (Reps.none _ _))); intro v122 w61 ho62 hb hg_ hnew_; clear hg_ hnew_; (first | rw [← Ny121.out] at ho62 | (simp only [Int.reduceToNat] at ho62; rw [← Ny121.out] at ho62)); have n0_ := Aside0.mk (Kd.R_lower (Kd.R_newB ho62 (g := gb120) (o := .cells #[.string a0_0, .string a0_1] 25 (0, 0)) (by (with_reducible repeat (first | refine blk_drewN ?_ _ | refine blk_drew ?_ | refine blk_alloc ?_ _)); exact BK120.out)) (below_size (by repeat (first | (with_reducible first | exact HB.out | apply below_alloc | apply pw_below_drewN | apply below_drew1 | refine below_set ?_ GE120.out) | exact HB.out)))); have n1_ := Aside0.mk (blk_below (g := gb120) (o := .cells #[.string a0_0, .string a0_1] 25 (0, 0)) (by (with_reducible repeat (first | refine blk_drewN ?_ _ | refine blk_drew ?_ | refine blk_alloc ?_ _)); exact BK120.out) hb); have n2_ := Aside0.mk (below_step (by repeat (first | (with_reducible first | exact HB.out | apply below_alloc | apply pw_below_drewN | apply below_drew1 | refine below_set ?_ GE120.out) | exact HB.out)) hb); clear BK120; clear HB; have HO123 := n0_; have BK120 := n1_; have HB := n2_; clear n0_ n1_ n2_; clear hb ho62; obtain ⟨Ao63, co63, eo63⟩ := Kd.R_slice HO123.out; subst eo63) | ((with_reducible refine gate_callee (f := 14) rfl ?_); refine goesL_ (some 13) rfl rfl Try.func14 (by kernel_rfl) rfl #[.slice Ao63 y121.length co63] rfl (by (try simp only [List.map_toArray, List.map_cons, List.map_nil]); first | done | rfl | (simp only [List.length_drop, List.length_take]; rfl)) ?_; (with_reducible refine (PA.bulletinlaw09_cut.calls k _ _ y121 t124 _ ?side1 ?side2 A2.out).mono ?_); (case side1 => repeat (first | exact (Kd.R_reads' HO123.out).2.2 | (with_reducible refine Kd.C_alloc ?_ _) | (with_reducible refine Kd.C_drewN ?_ _) | (with_reducible refine Kd.C_drew ?_))); (case side2 => exact (Kd.R_reads' HO123.out).2.1); rintro e w64 ⟨v125, rfl, ho0, hb⟩; refine ⟨_, rfl, ?_⟩; have n0_ := Aside0.mk (Kd.R_elder' (by (with_reducible repeat (first | apply Kd.R_alloc | apply Kd.R_drewN | apply Kd.R_drew)); exact HO123.out) (Kd.R_base ho0) hb); have n1_ := Aside0.mk (Kd.R_lower (Kd.R_newB (Kd.R_new' ho0 (Kd.R_lt (by (with_reducible repeat (first | apply Kd.R_alloc | apply Kd.R_drewN | apply Kd.R_drew)); exact HO123.out))) (g := gb120) (o := .cells #[.string a0_0, .string a0_1] 25 (0, 0)) (by (with_reducible repeat (first | refine blk_drewN ?_ _ | refine blk_drew ?_ | refine blk_alloc ?_ _)); exact BK120.out)) (below_size (by repeat (first | (with_reducible first | exact HB.out | apply below_alloc | apply pw_below_drewN | apply below_drew1 | refine below_set ?_ GE120.out) | exact HB.out)))); have n2_ := Aside0.mk (blk_below (g := gb120) (o := .cells #[.string a0_0, .string a0_1] 25 (0, 0)) (by (with_reducible repeat (first | refine blk_drewN ?_ _ | refine blk_drew ?_ | refine blk_alloc ?_ _)); exact BK120.out) hb); have n3_ := Aside0.mk (below_step (by repeat (first | (with_reducible first | exact HB.out | apply below_alloc | apply pw_below_drewN | apply below_drew1 | refine below_set ?_ GE120.out) | exact HB.out)) hb); clear HO123; clear BK120; clear HB; have HO123 := n0_; have HO126 := n1_; have BK120 := n2_; have HB := n3_; clear n0_ n1_ n2_ n3_; (try clear hb); (try clear hb2); (try clear hk); (try clear hi); (try clear ho0); obtain ⟨Ao65, co65, eo65⟩ := Kd.R_slice HO126.out; subst eo65; have p127 : 0 ≤ (0 : Int) := (by omega); have q127 : 0 < (t124.length : Int) := of_decide_eq_true (by first | (with_reducible assumption) | assumption); obtain ⟨ad127, e127, hx127_0, hx127_1⟩ := at_T25 (Kd.R_reads' HO126.out).2.2 0 p127 q127; cases e127; have qi127 : (0 < t124.length) = True := eq_true (by omega); (try rw [show ((0 : Int)).toNat = 0 from rfl] at hx127_0); (try rw [show 0 * 2 = 0 from rfl] at hx127_0); (try rw [Addr.add_zero'] at hx127_0); (try rw [show ((0 : Int)).toNat = 0 from rfl] at hx127_1); (try rw [show 0 * 2 = 0 from rfl] at hx127_1); (try rw [Addr.add_zero'] at hx127_1); replace p127 := eq_true p127; replace q127 := eq_true q127; have hcz66_0 : w64.cell? ⟨gb120, 0, none⟩ = some (.string a0_0) := (blk_cell BK120.out 0).trans rfl; have hcz66_1 : w64.cell? ⟨gb120, 1, none⟩ = some (.string a0_1) := (blk_cell BK120.out 1).trans rfl; have hfz66_0 := blk_frozen BK120.out 0; have hfz66_1 := blk_frozen BK120.out 1) | ((with_reducible refine gate_callee (f := 15) rfl ?_); refine goesL_ (some 22) rfl rfl Try.func15 (by kernel_rfl) rfl #[.agg #[.string ((rd_T25 t124 0).f0), .string ((rd_T25 t124 0).f1)]] rfl (by (try simp only [List.map_toArray, List.map_cons, List.map_nil]); first | done | rfl | (simp only [List.length_drop, List.length_take]; rfl)) ?_; (with_reducible refine (GV.Fold.calls k ((rd_T25 t124 0).f0) ((rd_T25 t124 0).f1) t128 t129 _ A4.out).mono ?_); rintro e w67 ⟨rfl, hb⟩; refine ⟨_, rfl, ?_⟩; have n0_ := Aside0.mk (Kd.R_below (by (with_reducible repeat (first | apply Kd.R_alloc | apply Kd.R_drewN | apply Kd.R_drew)); exact (Kd.R_mono (Kd.R_far (p := ⟨gb120, 1, none⟩) (Kd.R_far (p := ⟨gb120, 0, none⟩) (Kd.R_mono HO123.out (fun k_ hk => (⟨hk, hk.1.2⟩ : _ ∧ k_ ≠ gb120))) (fun _ hk => hk.2) (.string ((rd_T25 t124 0).f0))) (fun _ hk => hk.2) (.string ((rd_T25 t124 0).f1))) (fun _ h_ => h_.1))) hb); have n1_ := Aside0.mk (Kd.R_below (by (with_reducible repeat (first | apply Kd.R_alloc | apply Kd.R_drewN | apply Kd.R_drew)); exact (Kd.R_mono (Kd.R_far (p := ⟨gb120, 1, none⟩) (Kd.R_far (p := ⟨gb120, 0, none⟩) (Kd.R_mono HO126.out (fun k_ hk => (⟨hk, hk.2⟩ : _ ∧ k_ ≠ gb120))) (fun _ hk => hk.2) (.string ((rd_T25 t124 0).f0))) (fun _ hk => hk.2) (.string ((rd_T25 t124 0).f1))) (fun _ h_ => h_.1))) hb); have n2_ := Aside0.mk (blk_below (g := gb120) (o := .cells #[.string ((rd_T25 t124 0).f0), .string ((rd_T25 t124 0).f1)] 25 (0, 0)) (by (with_reducible repeat (first | refine blk_drewN ?_ _ | refine blk_drew ?_ | refine blk_alloc ?_ _)); refine blk_put (cs := #[.string ((rd_T25 t124 0).f0), .string a0_1]) ?_ 1 _ rfl; (with_reducible repeat (first | refine blk_drewN ?_ _ | refine blk_drew ?_ | refine blk_alloc ?_ _)); refine blk_put (cs := #[.string a0_0, .string a0_1]) ?_ 0 _ rfl; (with_reducible repeat (first | refine blk_drewN ?_ _ | refine blk_drew ?_ | refine blk_alloc ?_ _)); exact BK120.out) hb); have n3_ := Aside0.mk (below_step (by repeat (first | (with_reducible first | exact HB.out | apply below_alloc | apply pw_below_drewN | apply below_drew1 | refine below_set ?_ GE120.out) | exact HB.out)) hb); clear HO123; clear HO126; clear BK120; clear HB; have HO123 := n0_; have HO126 := n1_; have BK120 := n2_; have HB := n3_; clear n0_ n1_ n2_ n3_; (try clear hb); (try clear hb2); (try clear hk); (try clear hi)) | ((with_reducible refine gate_callee (f := 11) rfl ?_); refine goesL_ (some 27) rfl rfl Try.func11 (by kernel_rfl) rfl #[] rfl (by (try simp only [List.map_toArray, List.map_cons, List.map_nil]); first | done | rfl | (simp only [List.length_drop, List.length_take]; rfl)) ?_; (with_reducible refine (GV.known.calls  true _ ?side1 A57.out).mono ?_); (case side1 => exact gm_at HGM.out (by repeat (first | (with_reducible first | exact HB.out | apply below_alloc | apply pw_below_drewN | apply below_drew1 | refine below_set ?_ GE120.out) | exact HB.out))); rintro e w68 ⟨rfl, hb⟩; refine ⟨_, rfl, ?_⟩; have n0_ := Aside0.mk (Kd.R_below (by (with_reducible repeat (first | apply Kd.R_alloc | apply Kd.R_drewN | apply Kd.R_drew)); exact HO123.out) hb); have n1_ := Aside0.mk (Kd.R_below (by (with_reducible repeat (first | apply Kd.R_alloc | apply Kd.R_drewN | apply Kd.R_drew)); exact HO126.out) hb); have n2_ := Aside0.mk (blk_below (g := gb120) (o := .cells #[.string ((rd_T25 t124 0).f0), .string ((rd_T25 t124 0).f1)] 25 (0, 0)) (by (with_reducible repeat (first | refine blk_drewN ?_ _ | refine blk_drew ?_ | refine blk_alloc ?_ _)); exact BK120.out) hb); have n3_ := Aside0.mk (below_step (by repeat (first | (with_reducible first | exact HB.out | apply below_alloc | apply pw_below_drewN | apply below_drew1 | refine below_set ?_ GE120.out) | exact HB.out)) hb); clear HO123; clear HO126; clear BK120; clear HB; have HO123 := n0_; have HO126 := n1_; have BK120 := n2_; have HB := n3_; clear n0_ n1_ n2_ n3_; (try clear hb); (try clear hb2); (try clear hk); (try clear hi)))
        go_ret
        exact ⟨by first | rfl | (simp [errW_none, errW_some] <;> rfl) | (simp [*, errW_none, errW_some] <;> rfl), by repeat (first | (with_reducible first | exact HB.out | apply below_alloc | apply pw_below_drewN | apply below_drew1 | refine below_set ?_ GE120.out) | exact HB.out)⟩
      · replace c58 := Bool.eq_false_iff.mpr c58
        subst c58
        have H1 : (some false) = some r := by rw [if_neg (show ¬ (false = true) by decide)] at H; exact H
        clear H
        have H := H1
        clear H1
        obtain rfl := Option.some.inj H
        go_enter Try.func5, Try.ntmps5
        go_wp2_with (first | ((with_reducible refine gate_dst (N := 1) rfl ?_); (try (refine gate_guard (by rfl) ?_; dsimp only)); refine box_event ?hg (N := 1) ?hd (cs := #[.string a0_0, .string a0_1]) (t := 25) ?hr ?_; (case hd => rfl); (case hg => rfl); (case hr => first | (go_simp; done) | (go_simp; rfl)); intro gb120 hg w69 hbox hb; have n0_ := Aside0.mk (below_step (by repeat (first | (with_reducible first | exact HB.out | apply below_alloc | apply pw_below_drewN | apply below_drew1) | exact HB.out)) hb); have n1_ := Aside0.mk (hbox); have n2_ := Aside0.mk ((by rw [hg]; exact (below_size (by repeat (first | (with_reducible first | exact HB.out | apply below_alloc | apply pw_below_drewN | apply below_drew1) | exact HB.out))) : w.heap.size ≤ gb120)); have n3_ := Aside0.mk ((by rw [hg]; exact (below_size (by repeat (first | (with_reducible first | exact HB.out | apply below_alloc | apply pw_below_drewN | apply below_drew1) | exact HB.out))) : w.heap.size ≤ gb120)); clear HB; have HB := n0_; have BK120 := n1_; have GW120 := n2_; have GE120 := n3_; clear n0_ n1_ n2_ n3_; clear hb hbox hg; have hcz70_0 : w69.cell? ⟨gb120, 0, none⟩ = some (.string a0_0) := (blk_cell BK120.out 0).trans rfl; have hcz70_1 : w69.cell? ⟨gb120, 1, none⟩ = some (.string a0_1) := (blk_cell BK120.out 1).trans rfl; have hfz70_0 := blk_frozen BK120.out 0; have hfz70_1 := blk_frozen BK120.out 1) | ((with_reducible refine gate_dst (N := 12) rfl ?_); (try (refine gate_guard (by rfl) ?_; dsimp only)); refine Kd.R_lit k25 _ 25 ?hg (N := 12) ?hd (xs := ([(⟨a0_0, a0_1⟩ : S25)] : List (S25))) (inner := [.string a0_0, .string a0_1]) (ok := fun _ => True) (okp := fun _ => True) ?hr ?hp (fun _ hk => hk) trivial (Below.refl _ _) (Nat.le_refl _) (by simp) ?_; (case hd => rfl); (case hg => rfl); (case hr => first | (go_simp; done) | (go_simp; rfl)); (case hp => exact (Reps.c2 (show Kd.M k25 _ _ _ (⟨a0_0, a0_1⟩ : S25) [.string a0_0, .string a0_1] from (k25_mkM _ _ _ (⟨a0_0, a0_1⟩ : S25) )) (Reps.none _ _))); intro v122 w71 ho72 hb hg_ hnew_; clear hg_ hnew_; (first | rw [← Ny121.out] at ho72 | (simp only [Int.reduceToNat] at ho72; rw [← Ny121.out] at ho72)); have n0_ := Aside0.mk (Kd.R_lower (Kd.R_newB ho72 (g := gb120) (o := .cells #[.string a0_0, .string a0_1] 25 (0, 0)) (by (with_reducible repeat (first | refine blk_drewN ?_ _ | refine blk_drew ?_ | refine blk_alloc ?_ _)); exact BK120.out)) (below_size (by repeat (first | (with_reducible first | exact HB.out | apply below_alloc | apply pw_below_drewN | apply below_drew1 | refine below_set ?_ GE120.out) | exact HB.out)))); have n1_ := Aside0.mk (blk_below (g := gb120) (o := .cells #[.string a0_0, .string a0_1] 25 (0, 0)) (by (with_reducible repeat (first | refine blk_drewN ?_ _ | refine blk_drew ?_ | refine blk_alloc ?_ _)); exact BK120.out) hb); have n2_ := Aside0.mk (below_step (by repeat (first | (with_reducible first | exact HB.out | apply below_alloc | apply pw_below_drewN | apply below_drew1 | refine below_set ?_ GE120.out) | exact HB.out)) hb); clear BK120; clear HB; have HO123 := n0_; have BK120 := n1_; have HB := n2_; clear n0_ n1_ n2_; clear hb ho72; obtain ⟨Ao73, co73, eo73⟩ := Kd.R_slice HO123.out; subst eo73) | ((with_reducible refine gate_callee (f := 14) rfl ?_); refine goesL_ (some 13) rfl rfl Try.func14 (by kernel_rfl) rfl #[.slice Ao73 y121.length co73] rfl (by (try simp only [List.map_toArray, List.map_cons, List.map_nil]); first | done | rfl | (simp only [List.length_drop, List.length_take]; rfl)) ?_; (with_reducible refine (PA.bulletinlaw09_cut.calls k _ _ y121 t124 _ ?side1 ?side2 A2.out).mono ?_); (case side1 => repeat (first | exact (Kd.R_reads' HO123.out).2.2 | (with_reducible refine Kd.C_alloc ?_ _) | (with_reducible refine Kd.C_drewN ?_ _) | (with_reducible refine Kd.C_drew ?_))); (case side2 => exact (Kd.R_reads' HO123.out).2.1); rintro e w74 ⟨v125, rfl, ho0, hb⟩; refine ⟨_, rfl, ?_⟩; have n0_ := Aside0.mk (Kd.R_elder' (by (with_reducible repeat (first | apply Kd.R_alloc | apply Kd.R_drewN | apply Kd.R_drew)); exact HO123.out) (Kd.R_base ho0) hb); have n1_ := Aside0.mk (Kd.R_lower (Kd.R_newB (Kd.R_new' ho0 (Kd.R_lt (by (with_reducible repeat (first | apply Kd.R_alloc | apply Kd.R_drewN | apply Kd.R_drew)); exact HO123.out))) (g := gb120) (o := .cells #[.string a0_0, .string a0_1] 25 (0, 0)) (by (with_reducible repeat (first | refine blk_drewN ?_ _ | refine blk_drew ?_ | refine blk_alloc ?_ _)); exact BK120.out)) (below_size (by repeat (first | (with_reducible first | exact HB.out | apply below_alloc | apply pw_below_drewN | apply below_drew1 | refine below_set ?_ GE120.out) | exact HB.out)))); have n2_ := Aside0.mk (blk_below (g := gb120) (o := .cells #[.string a0_0, .string a0_1] 25 (0, 0)) (by (with_reducible repeat (first | refine blk_drewN ?_ _ | refine blk_drew ?_ | refine blk_alloc ?_ _)); exact BK120.out) hb); have n3_ := Aside0.mk (below_step (by repeat (first | (with_reducible first | exact HB.out | apply below_alloc | apply pw_below_drewN | apply below_drew1 | refine below_set ?_ GE120.out) | exact HB.out)) hb); clear HO123; clear BK120; clear HB; have HO123 := n0_; have HO126 := n1_; have BK120 := n2_; have HB := n3_; clear n0_ n1_ n2_ n3_; (try clear hb); (try clear hb2); (try clear hk); (try clear hi); (try clear ho0); obtain ⟨Ao75, co75, eo75⟩ := Kd.R_slice HO126.out; subst eo75; have p127 : 0 ≤ (0 : Int) := (by omega); have q127 : 0 < (t124.length : Int) := of_decide_eq_true (by first | (with_reducible assumption) | assumption); obtain ⟨ad127, e127, hx127_0, hx127_1⟩ := at_T25 (Kd.R_reads' HO126.out).2.2 0 p127 q127; cases e127; have qi127 : (0 < t124.length) = True := eq_true (by omega); (try rw [show ((0 : Int)).toNat = 0 from rfl] at hx127_0); (try rw [show 0 * 2 = 0 from rfl] at hx127_0); (try rw [Addr.add_zero'] at hx127_0); (try rw [show ((0 : Int)).toNat = 0 from rfl] at hx127_1); (try rw [show 0 * 2 = 0 from rfl] at hx127_1); (try rw [Addr.add_zero'] at hx127_1); replace p127 := eq_true p127; replace q127 := eq_true q127; have hcz76_0 : w74.cell? ⟨gb120, 0, none⟩ = some (.string a0_0) := (blk_cell BK120.out 0).trans rfl; have hcz76_1 : w74.cell? ⟨gb120, 1, none⟩ = some (.string a0_1) := (blk_cell BK120.out 1).trans rfl; have hfz76_0 := blk_frozen BK120.out 0; have hfz76_1 := blk_frozen BK120.out 1) | ((with_reducible refine gate_callee (f := 15) rfl ?_); refine goesL_ (some 22) rfl rfl Try.func15 (by kernel_rfl) rfl #[.agg #[.string ((rd_T25 t124 0).f0), .string ((rd_T25 t124 0).f1)]] rfl (by (try simp only [List.map_toArray, List.map_cons, List.map_nil]); first | done | rfl | (simp only [List.length_drop, List.length_take]; rfl)) ?_; (with_reducible refine (GV.Fold.calls k ((rd_T25 t124 0).f0) ((rd_T25 t124 0).f1) t128 t129 _ A4.out).mono ?_); rintro e w77 ⟨rfl, hb⟩; refine ⟨_, rfl, ?_⟩; have n0_ := Aside0.mk (Kd.R_below (by (with_reducible repeat (first | apply Kd.R_alloc | apply Kd.R_drewN | apply Kd.R_drew)); exact (Kd.R_mono (Kd.R_far (p := ⟨gb120, 1, none⟩) (Kd.R_far (p := ⟨gb120, 0, none⟩) (Kd.R_mono HO123.out (fun k_ hk => (⟨hk, hk.1.2⟩ : _ ∧ k_ ≠ gb120))) (fun _ hk => hk.2) (.string ((rd_T25 t124 0).f0))) (fun _ hk => hk.2) (.string ((rd_T25 t124 0).f1))) (fun _ h_ => h_.1))) hb); have n1_ := Aside0.mk (Kd.R_below (by (with_reducible repeat (first | apply Kd.R_alloc | apply Kd.R_drewN | apply Kd.R_drew)); exact (Kd.R_mono (Kd.R_far (p := ⟨gb120, 1, none⟩) (Kd.R_far (p := ⟨gb120, 0, none⟩) (Kd.R_mono HO126.out (fun k_ hk => (⟨hk, hk.2⟩ : _ ∧ k_ ≠ gb120))) (fun _ hk => hk.2) (.string ((rd_T25 t124 0).f0))) (fun _ hk => hk.2) (.string ((rd_T25 t124 0).f1))) (fun _ h_ => h_.1))) hb); have n2_ := Aside0.mk (blk_below (g := gb120) (o := .cells #[.string ((rd_T25 t124 0).f0), .string ((rd_T25 t124 0).f1)] 25 (0, 0)) (by (with_reducible repeat (first | refine blk_drewN ?_ _ | refine blk_drew ?_ | refine blk_alloc ?_ _)); refine blk_put (cs := #[.string ((rd_T25 t124 0).f0), .string a0_1]) ?_ 1 _ rfl; (with_reducible repeat (first | refine blk_drewN ?_ _ | refine blk_drew ?_ | refine blk_alloc ?_ _)); refine blk_put (cs := #[.string a0_0, .string a0_1]) ?_ 0 _ rfl; (with_reducible repeat (first | refine blk_drewN ?_ _ | refine blk_drew ?_ | refine blk_alloc ?_ _)); exact BK120.out) hb); have n3_ := Aside0.mk (below_step (by repeat (first | (with_reducible first | exact HB.out | apply below_alloc | apply pw_below_drewN | apply below_drew1 | refine below_set ?_ GE120.out) | exact HB.out)) hb); clear HO123; clear HO126; clear BK120; clear HB; have HO123 := n0_; have HO126 := n1_; have BK120 := n2_; have HB := n3_; clear n0_ n1_ n2_ n3_; (try clear hb); (try clear hb2); (try clear hk); (try clear hi)) | ((with_reducible refine gate_callee (f := 11) rfl ?_); refine goesL_ (some 27) rfl rfl Try.func11 (by kernel_rfl) rfl #[] rfl (by (try simp only [List.map_toArray, List.map_cons, List.map_nil]); first | done | rfl | (simp only [List.length_drop, List.length_take]; rfl)) ?_; (with_reducible refine (GV.known.calls  false _ ?side1 A57.out).mono ?_); (case side1 => exact gm_at HGM.out (by repeat (first | (with_reducible first | exact HB.out | apply below_alloc | apply pw_below_drewN | apply below_drew1 | refine below_set ?_ GE120.out) | exact HB.out))); rintro e w78 ⟨rfl, hb⟩; refine ⟨_, rfl, ?_⟩; have n0_ := Aside0.mk (Kd.R_below (by (with_reducible repeat (first | apply Kd.R_alloc | apply Kd.R_drewN | apply Kd.R_drew)); exact HO123.out) hb); have n1_ := Aside0.mk (Kd.R_below (by (with_reducible repeat (first | apply Kd.R_alloc | apply Kd.R_drewN | apply Kd.R_drew)); exact HO126.out) hb); have n2_ := Aside0.mk (blk_below (g := gb120) (o := .cells #[.string ((rd_T25 t124 0).f0), .string ((rd_T25 t124 0).f1)] 25 (0, 0)) (by (with_reducible repeat (first | refine blk_drewN ?_ _ | refine blk_drew ?_ | refine blk_alloc ?_ _)); exact BK120.out) hb); have n3_ := Aside0.mk (below_step (by repeat (first | (with_reducible first | exact HB.out | apply below_alloc | apply pw_below_drewN | apply below_drew1 | refine below_set ?_ GE120.out) | exact HB.out)) hb); clear HO123; clear HO126; clear BK120; clear HB; have HO123 := n0_; have HO126 := n1_; have BK120 := n2_; have HB := n3_; clear n0_ n1_ n2_ n3_; (try clear hb); (try clear hb2); (try clear hk); (try clear hi)))
        go_ret
        exact ⟨by first | rfl | (simp [errW_none, errW_some] <;> rfl) | (simp [*, errW_none, errW_some] <;> rfl), by repeat (first | (with_reducible first | exact HB.out | apply below_alloc | apply pw_below_drewN | apply below_drew1 | refine below_set ?_ GE120.out) | exact HB.out)⟩
  · rw [if_neg c3] at H
    exact absurd H (by simp)


end Go.Proofs.Ytfeciafdioepiaa.PC
