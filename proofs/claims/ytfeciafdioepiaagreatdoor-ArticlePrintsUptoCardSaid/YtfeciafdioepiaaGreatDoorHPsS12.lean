/- Merged texts: P1, P2, P3 -/
import Derived.Test.YtfeciafdioepiaaGreatDoorProg
import Derived.Below
import Derived.Deep.Draws
import Derived.Deep.AppendLies
import Derived.Maps.AppendAt
import Derived.OwnWalk
import Derived.Laws.BytesArg
import Derived.Laws.MakeOwn
import Derived.Laws.OwnMore
import Derived.Deep.OwnRows
import Derived.Tactics
import Derived.Lib.ConvBytes
import Derived.Laws.Slices
import Derived.WalkKit
import Derived.KernelRfl
import Derived.RowKit3
import Derived.Deep.LoopGhost
import Derived.Deep.QuietTactic
import Derived.BigQuiet
import Derived.WideLaws
import Derived.Deep.DeepCutAuto
import Derived.Deep.CutBlock
import Derived.Deep.RegionHeld3
import Derived.Laws.Rows
import Derived.Lib.AppendStr
import Derived.ArgAppend
import Derived.Laws.IdiomCopy
import Derived.OrdersHeld
import Derived.Laws.BitsLemmas
import Derived.RowKit
import Derived.Test.YtfeciafdioepiaaGreatDoorHPsS11
import Derived.Test.YtfeciafdioepiaaGreatDoorHPsS8
import Derived.Test.YtfeciafdioepiaaGreatDoorHPsS2
import Derived.Test.YtfeciafdioepiaaGreatDoorHPsS5
import Derived.Test.YtfeciafdioepiaaGreatDoorHPsS9
import Derived.Test.YtfeciafdioepiaaGreatDoorHPsS6
import Derived.Test.YtfeciafdioepiaaGreatDoorHPsS0
import Derived.Test.YtfeciafdioepiaaGreatDoorHPsS1
import Derived.Laws.StructEq
namespace Go.Proofs.YtfeciafdioepiaaGreatDoor.PL
open Go.Proofs.YtfeciafdioepiaaGreatDoor.PA
open Go.Proofs.YtfeciafdioepiaaGreatDoor
open Go.RowKit Go.Proofs.YtfeciafdioepiaaGreatDoorW.PrintWords Go.Proofs.YtfeciafdioepiaaGreatDoorW.PrintLast Go.Proofs.YtfeciafdioepiaaGreatDoorW.PrintMore
attribute [local go_sem] max2_int min2_int max_two min_two max_three min_three max_four min_four   -- for this text's walks alone
set_option linter.unusedVariables false
set_option linter.unusedSimpArgs false

/-! ### bulletinlaw15_ArticlePrints: function 7 -/
def bulletinlaw15_ArticlePrints.j0 : Nat → ByteArray → Int → Bool → List (S78) → ByteArray → Option (Bool)
  | 0, _, _, _, _, _ => none
  | k + 1, x5, x6, x43, x158000, x158001 => if x43 = true then (some false) else ((GV.AParse.f k x5).bind fun bt169 => (if x6 = 0 then (if bt169.2.2.1 = 0 then (if bt169.2.2.2 = 0 then ((PA.bulletinlaw15_same.f k bt169.1 bt169.2.1 x158000 x158001).bind fun t176 => (some t176)) else (some false)) else (some false)) else (some true)))
def bulletinlaw15_ArticlePrints.f (k : Nat) (l0_0 : List (S76)) (a0_1 : ByteArray) : Option (Bool) := (PA.bulletinlaw15_to.f k l0_0 a0_1).bind fun bt153 => ((PA.bulletinlaw15_back.f k bt153.1 bt153.2).bind fun bt158 => ((PC.article_Print.f k bt158.1 bt158.2).bind fun bt163 => ((PA.bulletinref15_Print.f k bt153.1 bt153.2).bind fun bt165 => ((GV.known.f).bind fun t167 => (if t167 = true then (if bt163.1.toList = bt165.1.toList then (if bt163.2 = bt165.2 then ((PC.article_Article_Check.f k bt158.1 bt158.2).bind fun t168 => (bulletinlaw15_ArticlePrints.j0 k bt163.1 bt163.2 (t168 != bt163.2) bt153.1 bt153.2)) else (bulletinlaw15_ArticlePrints.j0 k bt163.1 bt163.2 true bt153.1 bt153.2)) else (bulletinlaw15_ArticlePrints.j0 k bt163.1 bt163.2 true bt153.1 bt153.2)) else (bulletinlaw15_ArticlePrints.j0 k bt163.1 bt163.2 true bt153.1 bt153.2))))))
set_option maxHeartbeats 8000000 in
set_option maxRecDepth 100000 in
theorem bulletinlaw15_ArticlePrints.calls (k : Nat) (A0_0 : Option Addr) (c0_0 : Nat) (l0_0 : List (S76)) (a0_1 : ByteArray) (r : Bool) (w : World) (hgm : Gm w) (hr0_0 : Kd.C k76 w A0_0 l0_0.length l0_0) (hc0_0 : l0_0.length ≤ c0_0) (h : bulletinlaw15_ArticlePrints.f k l0_0 a0_1 = some r) :
    Calls Tryz.prog 7 #[.agg #[.slice A0_0 l0_0.length c0_0, .string a0_1]] w fun e w' => e = .returned (.bool r) ∧ Below w.heap.size w w' := by
  have hu25 := Tryz.underlying25
  have hu31 := Tryz.underlying31
  have HGM := Aside0.mk hgm
  clear hgm
  have HR0_0 := Aside0.mk hr0_0
  have HC0_0 := Aside0.mk hc0_0
  clear hr0_0 hc0_0
  have HB := Aside0.mk (Below.refl w.heap.size w)
  have H : ((PA.bulletinlaw15_to.f k l0_0 a0_1).bind fun bt153 => ((PA.bulletinlaw15_back.f k bt153.1 bt153.2).bind fun bt158 => ((PC.article_Print.f k bt158.1 bt158.2).bind fun bt163 => ((PA.bulletinref15_Print.f k bt153.1 bt153.2).bind fun bt165 => ((GV.known.f).bind fun t167 => (if t167 = true then (if bt163.1.toList = bt165.1.toList then (if bt163.2 = bt165.2 then ((PC.article_Article_Check.f k bt158.1 bt158.2).bind fun t168 => (bulletinlaw15_ArticlePrints.j0 k bt163.1 bt163.2 (t168 != bt163.2) bt153.1 bt153.2)) else (bulletinlaw15_ArticlePrints.j0 k bt163.1 bt163.2 true bt153.1 bt153.2)) else (bulletinlaw15_ArticlePrints.j0 k bt163.1 bt163.2 true bt153.1 bt153.2)) else (bulletinlaw15_ArticlePrints.j0 k bt163.1 bt163.2 true bt153.1 bt153.2))))))) = some r := h
  clear h
  replace H := Option.bind_eq_some_iff.mp H
  obtain ⟨⟨t153, t156⟩, A20, H⟩ := H
  replace H : ((PA.bulletinlaw15_back.f k t153 t156).bind fun bt158 => ((PC.article_Print.f k bt158.1 bt158.2).bind fun bt163 => ((PA.bulletinref15_Print.f k t153 t156).bind fun bt165 => ((GV.known.f).bind fun t167 => (if t167 = true then (if bt163.1.toList = bt165.1.toList then (if bt163.2 = bt165.2 then ((PC.article_Article_Check.f k bt158.1 bt158.2).bind fun t168 => (bulletinlaw15_ArticlePrints.j0 k bt163.1 bt163.2 (t168 != bt163.2) t153 t156)) else (bulletinlaw15_ArticlePrints.j0 k bt163.1 bt163.2 true t153 t156)) else (bulletinlaw15_ArticlePrints.j0 k bt163.1 bt163.2 true t153 t156)) else (bulletinlaw15_ArticlePrints.j0 k bt163.1 bt163.2 true t153 t156)))))) = some r := H
  have A2 := Aside0.mk A20
  clear A20
  replace H := Option.bind_eq_some_iff.mp H
  obtain ⟨⟨t158, t161⟩, A30, H⟩ := H
  replace H : ((PC.article_Print.f k t158 t161).bind fun bt163 => ((PA.bulletinref15_Print.f k t153 t156).bind fun bt165 => ((GV.known.f).bind fun t167 => (if t167 = true then (if bt163.1.toList = bt165.1.toList then (if bt163.2 = bt165.2 then ((PC.article_Article_Check.f k t158 t161).bind fun t168 => (bulletinlaw15_ArticlePrints.j0 k bt163.1 bt163.2 (t168 != bt163.2) t153 t156)) else (bulletinlaw15_ArticlePrints.j0 k bt163.1 bt163.2 true t153 t156)) else (bulletinlaw15_ArticlePrints.j0 k bt163.1 bt163.2 true t153 t156)) else (bulletinlaw15_ArticlePrints.j0 k bt163.1 bt163.2 true t153 t156))))) = some r := H
  have A3 := Aside0.mk A30
  clear A30
  replace H := Option.bind_eq_some_iff.mp H
  obtain ⟨⟨t163, t164⟩, A40, H⟩ := H
  replace H : ((PA.bulletinref15_Print.f k t153 t156).bind fun bt165 => ((GV.known.f).bind fun t167 => (if t167 = true then (if t163.toList = bt165.1.toList then (if t164 = bt165.2 then ((PC.article_Article_Check.f k t158 t161).bind fun t168 => (bulletinlaw15_ArticlePrints.j0 k t163 t164 (t168 != t164) t153 t156)) else (bulletinlaw15_ArticlePrints.j0 k t163 t164 true t153 t156)) else (bulletinlaw15_ArticlePrints.j0 k t163 t164 true t153 t156)) else (bulletinlaw15_ArticlePrints.j0 k t163 t164 true t153 t156)))) = some r := H
  have A4 := Aside0.mk A40
  clear A40
  replace H := Option.bind_eq_some_iff.mp H
  obtain ⟨⟨t165, t166⟩, A50, H⟩ := H
  replace H : ((GV.known.f).bind fun t167 => (if t167 = true then (if t163.toList = t165.toList then (if t164 = t166 then ((PC.article_Article_Check.f k t158 t161).bind fun t168 => (bulletinlaw15_ArticlePrints.j0 k t163 t164 (t168 != t164) t153 t156)) else (bulletinlaw15_ArticlePrints.j0 k t163 t164 true t153 t156)) else (bulletinlaw15_ArticlePrints.j0 k t163 t164 true t153 t156)) else (bulletinlaw15_ArticlePrints.j0 k t163 t164 true t153 t156))) = some r := H
  have A5 := Aside0.mk A50
  clear A50
  have HC6 := Aside0.mk H
  clear H
  go_enter Tryz.func7, Tryz.ntmps7
  go_upto_region 5 with (first | ((with_reducible refine gate_dst (N := 1) rfl ?_); refine box_event ?hg (N := 1) ?hd (cs := #[.slice A0_0 l0_0.length c0_0, .string a0_1]) (t := 25) ?hr ?_; (case hd => rfl); (case hg => rfl); (case hr => first | (go_simp; done) | (go_simp; rfl)); intro gb152 hg w7 hbox hb; have n0_ := Aside0.mk (below_step (by repeat (first | (with_reducible first | exact HB.out | apply below_alloc | apply pw_below_drewN | apply below_drew1) | exact HB.out)) hb); have n1_ := Aside0.mk (hbox); have n2_ := Aside0.mk ((by rw [hg]; exact (below_size (by repeat (first | (with_reducible first | exact HB.out | apply below_alloc | apply pw_below_drewN | apply below_drew1) | exact HB.out))) : w.heap.size ≤ gb152)); have n3_ := Aside0.mk ((by rw [hg]; exact (below_size (by repeat (first | (with_reducible first | exact HB.out | apply below_alloc | apply pw_below_drewN | apply below_drew1) | exact HB.out))) : w.heap.size ≤ gb152)); clear HB; have HB := n0_; have BK152 := n1_; have GW152 := n2_; have GE152 := n3_; clear n0_ n1_ n2_ n3_; clear hb hbox hg; have hcz8_0 : w7.cell? ⟨gb152, 0, none⟩ = some (.slice A0_0 l0_0.length c0_0) := (blk_cell BK152.out 0).trans rfl; have hcz8_1 : w7.cell? ⟨gb152, 1, none⟩ = some (.string a0_1) := (blk_cell BK152.out 1).trans rfl; have hfz8_0 := blk_frozen BK152.out 0; have hfz8_1 := blk_frozen BK152.out 1) | ((with_reducible refine gate_callee (f := 25) rfl ?_); refine goesL_ (some 13) rfl rfl Tryz.func25 (by kernel_rfl) rfl #[.agg #[.slice A0_0 l0_0.length c0_0, .string a0_1]] rfl (by (try simp only [List.map_toArray, List.map_cons, List.map_nil]); first | done | rfl | (simp only [List.length_drop, List.length_take]; rfl)) ?_; (with_reducible refine (PA.bulletinlaw15_to.calls k _ _ l0_0 a0_1 t153 t156 _ ?side1 ?side2 A2.out).mono ?_); (case side1 => repeat (first | exact (Kd.C_below HR0_0.out HB.out) | (with_reducible refine Kd.C_alloc ?_ _) | (with_reducible refine Kd.C_drewN ?_ _) | (with_reducible refine Kd.C_drew ?_))); (case side2 => exact HC0_0.out); rintro e w9 ⟨v154, rfl, ho0, hb⟩; refine ⟨_, rfl, ?_⟩; have n0_ := Aside0.mk (Kd.R_lower ho0 (below_size (by repeat (first | (with_reducible first | exact HB.out | apply below_alloc | apply pw_below_drewN | apply below_drew1 | refine below_set ?_ GE152.out) | exact HB.out)))); have n1_ := Aside0.mk (blk_below (g := gb152) (o := .cells #[.slice A0_0 l0_0.length c0_0, .string a0_1] 25 (0, 0)) (by (with_reducible repeat (first | refine blk_drewN ?_ _ | refine blk_drew ?_ | refine blk_alloc ?_ _)); exact BK152.out) hb); have n2_ := Aside0.mk (below_step (by repeat (first | (with_reducible first | exact HB.out | apply below_alloc | apply pw_below_drewN | apply below_drew1 | refine below_set ?_ GE152.out) | exact HB.out)) hb); clear BK152; clear HB; have HO155 := n0_; have BK152 := n1_; have HB := n2_; clear n0_ n1_ n2_; (try clear hb); (try clear hb2); (try clear hk); (try clear hi); (try clear ho0)) | ((with_reducible refine gate_dst (N := 3) rfl ?_); refine box_event ?hg (N := 3) ?hd (cs := #[.slice none 0 0, .string (⟨#[]⟩ : ByteArray)]) (t := 31) ?hr ?_; (case hd => rfl); (case hg => rfl); (case hr => first | (go_simp; done) | (go_simp; rfl)); intro gb157 hg w10 hbox hb; have n0_ := Aside0.mk (Kd.R_below (by (with_reducible repeat (first | apply Kd.R_alloc | apply Kd.R_drewN | apply Kd.R_drew)); exact HO155.out) hb); have n1_ := Aside0.mk (blk_below (g := gb152) (o := .cells #[.slice A0_0 l0_0.length c0_0, .string a0_1] 25 (0, 0)) (by (with_reducible repeat (first | refine blk_drewN ?_ _ | refine blk_drew ?_ | refine blk_alloc ?_ _)); exact BK152.out) hb); have n2_ := Aside0.mk (below_step (by repeat (first | (with_reducible first | exact HB.out | apply below_alloc | apply pw_below_drewN | apply below_drew1 | refine below_set ?_ GE152.out) | exact HB.out)) hb); have n3_ := Aside0.mk (hbox); have n4_ := Aside0.mk ((by rw [hg]; exact (below_size (by repeat (first | (with_reducible first | exact HB.out | apply below_alloc | apply pw_below_drewN | apply below_drew1 | refine below_set ?_ GE152.out) | exact HB.out))) : w.heap.size ≤ gb157)); have n5_ := Aside0.mk ((by rw [hg]; exact (below_size (by repeat (first | (with_reducible first | exact HB.out | apply below_alloc | apply pw_below_drewN | apply below_drew1 | refine below_set ?_ GE152.out) | exact HB.out))) : w.heap.size ≤ gb157)); have n6_ := Aside0.mk ((by rw [hg]; exact Nat.ne_of_lt (blk_lt (g := gb152) (o := .cells #[.slice A0_0 l0_0.length c0_0, .string a0_1] 25 (0, 0)) (by (with_reducible repeat (first | refine blk_drewN ?_ _ | refine blk_drew ?_ | refine blk_alloc ?_ _)); exact BK152.out)) : gb152 ≠ gb157)); have n7_ := Aside0.mk ((by rw [hg]; exact Nat.ne_of_gt (blk_lt (g := gb152) (o := .cells #[.slice A0_0 l0_0.length c0_0, .string a0_1] 25 (0, 0)) (by (with_reducible repeat (first | refine blk_drewN ?_ _ | refine blk_drew ?_ | refine blk_alloc ?_ _)); exact BK152.out)) : gb157 ≠ gb152)); clear HO155; clear BK152; clear HB; have HO155 := n0_; have BK152 := n1_; have HB := n2_; have BK157 := n3_; have GW157 := n4_; have GE157 := n5_; have NB152_157 := n6_; have NB157_152 := n7_; clear n0_ n1_ n2_ n3_ n4_ n5_ n6_ n7_; clear hb hbox hg; obtain ⟨Ao11, co11, eo11⟩ := Kd.R_slice HO155.out; subst eo11; have hnb12 := NB157_152.out; have hnc12 := NB152_157.out; have hcz13_0 : w10.cell? ⟨gb157, 0, none⟩ = some (.slice none 0 0) := (blk_cell BK157.out 0).trans rfl; have hcz13_1 : w10.cell? ⟨gb157, 1, none⟩ = some (.string (⟨#[]⟩ : ByteArray)) := (blk_cell BK157.out 1).trans rfl; have hfz13_0 := blk_frozen BK157.out 0; have hfz13_1 := blk_frozen BK157.out 1) | ((with_reducible refine gate_callee (f := 19) rfl ?_); refine goesL_ (some 15) rfl rfl Tryz.func19 (by kernel_rfl) rfl #[.agg #[.slice Ao11 t153.length co11, .string t156]] rfl (by (try simp only [List.map_toArray, List.map_cons, List.map_nil]); first | done | rfl | (simp only [List.length_drop, List.length_take]; rfl)) ?_; (with_reducible refine (PA.bulletinlaw15_back.calls k _ _ t153 t156 t158 t161 _ ?side1 ?side2 A3.out).mono ?_); (case side1 => refine (Kd.R_reads' (e := 78) (base := w.heap.size) (ok := fun k_ => True) (n := t153.length) (c := co11) ?_).2.2; exact (by (with_reducible repeat (first | apply Kd.R_alloc | apply Kd.R_drewN | apply Kd.R_drew)); exact (Kd.R_mono (Kd.R_far (p := ⟨gb157, 1, none⟩) (Kd.R_far (p := ⟨gb157, 0, none⟩) (Kd.R_types HO155.out BK157.out (by decide)) (fun _ hk => hk.2) (.slice Ao11 t153.length co11)) (fun _ hk => hk.2) (.string t156)) (fun _ h_ => h_.1)))); (case side2 => exact (Kd.R_reads' HO155.out).2.1); rintro e w14 ⟨v159, rfl, ho0, hb⟩; refine ⟨_, rfl, ?_⟩; have n0_ := Aside0.mk (Kd.R_below (by (with_reducible repeat (first | apply Kd.R_alloc | apply Kd.R_drewN | apply Kd.R_drew)); exact (Kd.R_mono (Kd.R_far (p := ⟨gb157, 1, none⟩) (Kd.R_far (p := ⟨gb157, 0, none⟩) (Kd.R_types HO155.out BK157.out (by decide)) (fun _ hk => hk.2) (.slice Ao11 t153.length co11)) (fun _ hk => hk.2) (.string t156)) (fun _ h_ => h_.1))) hb); have n1_ := Aside0.mk (Kd.R_lower ho0 (below_size (by repeat (first | (with_reducible first | exact HB.out | apply below_alloc | apply pw_below_drewN | apply below_drew1 | refine below_set ?_ GE152.out | refine below_set ?_ GE157.out) | exact HB.out)))); have n2_ := Aside0.mk (blk_below (g := gb152) (o := .cells #[.slice A0_0 l0_0.length c0_0, .string a0_1] 25 (0, 0)) (by (with_reducible repeat (first | refine blk_drewN ?_ _ | refine blk_drew ?_ | refine blk_alloc ?_ _)); refine blk_far ?_ NB152_157.out _; (with_reducible repeat (first | refine blk_drewN ?_ _ | refine blk_drew ?_ | refine blk_alloc ?_ _)); refine blk_far ?_ NB152_157.out _; (with_reducible repeat (first | refine blk_drewN ?_ _ | refine blk_drew ?_ | refine blk_alloc ?_ _)); exact BK152.out) hb); have n3_ := Aside0.mk (blk_below (g := gb157) (o := .cells #[.slice Ao11 t153.length co11, .string t156] 31 (0, 0)) (by (with_reducible repeat (first | refine blk_drewN ?_ _ | refine blk_drew ?_ | refine blk_alloc ?_ _)); refine blk_put (cs := #[.slice Ao11 t153.length co11, .string (⟨#[]⟩ : ByteArray)]) ?_ 1 _ rfl; (with_reducible repeat (first | refine blk_drewN ?_ _ | refine blk_drew ?_ | refine blk_alloc ?_ _)); refine blk_put (cs := #[.slice none 0 0, .string (⟨#[]⟩ : ByteArray)]) ?_ 0 _ rfl; (with_reducible repeat (first | refine blk_drewN ?_ _ | refine blk_drew ?_ | refine blk_alloc ?_ _)); exact BK157.out) hb); have n4_ := Aside0.mk (below_step (by repeat (first | (with_reducible first | exact HB.out | apply below_alloc | apply pw_below_drewN | apply below_drew1 | refine below_set ?_ GE152.out | refine below_set ?_ GE157.out) | exact HB.out)) hb); clear HO155; clear BK152; clear BK157; clear HB; have HO155 := n0_; have HO160 := n1_; have BK152 := n2_; have BK157 := n3_; have HB := n4_; clear n0_ n1_ n2_ n3_ n4_; (try clear hb); (try clear hb2); (try clear hk); (try clear hi); (try clear ho0)) | ((with_reducible refine gate_dst (N := 4) rfl ?_); refine box_event ?hg (N := 4) ?hd (cs := #[.slice none 0 0, .string (⟨#[]⟩ : ByteArray)]) (t := 25) ?hr ?_; (case hd => rfl); (case hg => rfl); (case hr => first | (go_simp; done) | (go_simp; rfl)); intro gb162 hg w15 hbox hb; have n0_ := Aside0.mk (Kd.R_below (by (with_reducible repeat (first | apply Kd.R_alloc | apply Kd.R_drewN | apply Kd.R_drew)); exact HO155.out) hb); have n1_ := Aside0.mk (Kd.R_below (by (with_reducible repeat (first | apply Kd.R_alloc | apply Kd.R_drewN | apply Kd.R_drew)); exact HO160.out) hb); have n2_ := Aside0.mk (blk_below (g := gb152) (o := .cells #[.slice A0_0 l0_0.length c0_0, .string a0_1] 25 (0, 0)) (by (with_reducible repeat (first | refine blk_drewN ?_ _ | refine blk_drew ?_ | refine blk_alloc ?_ _)); exact BK152.out) hb); have n3_ := Aside0.mk (blk_below (g := gb157) (o := .cells #[.slice Ao11 t153.length co11, .string t156] 31 (0, 0)) (by (with_reducible repeat (first | refine blk_drewN ?_ _ | refine blk_drew ?_ | refine blk_alloc ?_ _)); exact BK157.out) hb); have n4_ := Aside0.mk (below_step (by repeat (first | (with_reducible first | exact HB.out | apply below_alloc | apply pw_below_drewN | apply below_drew1 | refine below_set ?_ GE152.out | refine below_set ?_ GE157.out) | exact HB.out)) hb); have n5_ := Aside0.mk (hbox); have n6_ := Aside0.mk ((by rw [hg]; exact (below_size (by repeat (first | (with_reducible first | exact HB.out | apply below_alloc | apply pw_below_drewN | apply below_drew1 | refine below_set ?_ GE152.out | refine below_set ?_ GE157.out) | exact HB.out))) : w.heap.size ≤ gb162)); have n7_ := Aside0.mk ((by rw [hg]; exact (below_size (by repeat (first | (with_reducible first | exact HB.out | apply below_alloc | apply pw_below_drewN | apply below_drew1 | refine below_set ?_ GE152.out | refine below_set ?_ GE157.out) | exact HB.out))) : w.heap.size ≤ gb162)); have n8_ := Aside0.mk ((by rw [hg]; exact Nat.ne_of_lt (blk_lt (g := gb152) (o := .cells #[.slice A0_0 l0_0.length c0_0, .string a0_1] 25 (0, 0)) (by (with_reducible repeat (first | refine blk_drewN ?_ _ | refine blk_drew ?_ | refine blk_alloc ?_ _)); exact BK152.out)) : gb152 ≠ gb162)); have n9_ := Aside0.mk ((by rw [hg]; exact Nat.ne_of_gt (blk_lt (g := gb152) (o := .cells #[.slice A0_0 l0_0.length c0_0, .string a0_1] 25 (0, 0)) (by (with_reducible repeat (first | refine blk_drewN ?_ _ | refine blk_drew ?_ | refine blk_alloc ?_ _)); exact BK152.out)) : gb162 ≠ gb152)); have n10_ := Aside0.mk ((by rw [hg]; exact Nat.ne_of_lt (blk_lt (g := gb157) (o := .cells #[.slice Ao11 t153.length co11, .string t156] 31 (0, 0)) (by (with_reducible repeat (first | refine blk_drewN ?_ _ | refine blk_drew ?_ | refine blk_alloc ?_ _)); exact BK157.out)) : gb157 ≠ gb162)); have n11_ := Aside0.mk ((by rw [hg]; exact Nat.ne_of_gt (blk_lt (g := gb157) (o := .cells #[.slice Ao11 t153.length co11, .string t156] 31 (0, 0)) (by (with_reducible repeat (first | refine blk_drewN ?_ _ | refine blk_drew ?_ | refine blk_alloc ?_ _)); exact BK157.out)) : gb162 ≠ gb157)); clear HO155; clear HO160; clear BK152; clear BK157; clear HB; have HO155 := n0_; have HO160 := n1_; have BK152 := n2_; have BK157 := n3_; have HB := n4_; have BK162 := n5_; have GW162 := n6_; have GE162 := n7_; have NB152_162 := n8_; have NB162_152 := n9_; have NB157_162 := n10_; have NB162_157 := n11_; clear n0_ n1_ n2_ n3_ n4_ n5_ n6_ n7_ n8_ n9_ n10_ n11_; clear hb hbox hg; obtain ⟨Ao16, co16, eo16⟩ := Kd.R_slice HO160.out; subst eo16; have hnb17 := NB162_152.out; have hnc17 := NB152_162.out; have hnb18 := NB162_157.out; have hnc18 := NB157_162.out; have hcz19_0 : w15.cell? ⟨gb162, 0, none⟩ = some (.slice none 0 0) := (blk_cell BK162.out 0).trans rfl; have hcz19_1 : w15.cell? ⟨gb162, 1, none⟩ = some (.string (⟨#[]⟩ : ByteArray)) := (blk_cell BK162.out 1).trans rfl; have hfz19_0 := blk_frozen BK162.out 0; have hfz19_1 := blk_frozen BK162.out 1) | ((with_reducible refine gate_callee (f := 16) rfl ?_); refine goesL_ (some 18) rfl rfl Tryz.func16 (by kernel_rfl) rfl #[.agg #[.slice Ao16 t158.length co16, .string t161]] rfl (by (try simp only [List.map_toArray, List.map_cons, List.map_nil]); first | done | rfl | (simp only [List.length_drop, List.length_take]; rfl)) ?_; (with_reducible refine (PC.article_Print.calls k _ _ t158 t161 t163 t164 _ ?side1 ?side2 A4.out).mono ?_); (case side1 => refine (Kd.R_reads' (e := 76) (base := w.heap.size) (ok := fun k_ => True) (n := t158.length) (c := co16) ?_).2.2; exact (by (with_reducible repeat (first | apply Kd.R_alloc | apply Kd.R_drewN | apply Kd.R_drew)); exact (Kd.R_mono (Kd.R_far (p := ⟨gb162, 1, none⟩) (Kd.R_far (p := ⟨gb162, 0, none⟩) (Kd.R_types HO160.out BK162.out (by decide)) (fun _ hk => hk.2) (.slice Ao16 t158.length co16)) (fun _ hk => hk.2) (.string t161)) (fun _ h_ => h_.1)))); (case side2 => exact (Kd.R_reads' HO160.out).2.1); rintro e w20 ⟨rfl, hb⟩; refine ⟨_, rfl, ?_⟩; have n0_ := Aside0.mk (Kd.R_below (by (with_reducible repeat (first | apply Kd.R_alloc | apply Kd.R_drewN | apply Kd.R_drew)); exact (Kd.R_mono (Kd.R_far (p := ⟨gb162, 1, none⟩) (Kd.R_far (p := ⟨gb162, 0, none⟩) (Kd.R_types HO155.out BK162.out (by decide)) (fun _ hk => hk.2) (.slice Ao16 t158.length co16)) (fun _ hk => hk.2) (.string t161)) (fun _ h_ => h_.1))) hb); have n1_ := Aside0.mk (Kd.R_below (by (with_reducible repeat (first | apply Kd.R_alloc | apply Kd.R_drewN | apply Kd.R_drew)); exact (Kd.R_mono (Kd.R_far (p := ⟨gb162, 1, none⟩) (Kd.R_far (p := ⟨gb162, 0, none⟩) (Kd.R_types HO160.out BK162.out (by decide)) (fun _ hk => hk.2) (.slice Ao16 t158.length co16)) (fun _ hk => hk.2) (.string t161)) (fun _ h_ => h_.1))) hb); have n2_ := Aside0.mk (blk_below (g := gb152) (o := .cells #[.slice A0_0 l0_0.length c0_0, .string a0_1] 25 (0, 0)) (by (with_reducible repeat (first | refine blk_drewN ?_ _ | refine blk_drew ?_ | refine blk_alloc ?_ _)); refine blk_far ?_ NB152_162.out _; (with_reducible repeat (first | refine blk_drewN ?_ _ | refine blk_drew ?_ | refine blk_alloc ?_ _)); refine blk_far ?_ NB152_162.out _; (with_reducible repeat (first | refine blk_drewN ?_ _ | refine blk_drew ?_ | refine blk_alloc ?_ _)); exact BK152.out) hb); have n3_ := Aside0.mk (blk_below (g := gb157) (o := .cells #[.slice Ao11 t153.length co11, .string t156] 31 (0, 0)) (by (with_reducible repeat (first | refine blk_drewN ?_ _ | refine blk_drew ?_ | refine blk_alloc ?_ _)); refine blk_far ?_ NB157_162.out _; (with_reducible repeat (first | refine blk_drewN ?_ _ | refine blk_drew ?_ | refine blk_alloc ?_ _)); refine blk_far ?_ NB157_162.out _; (with_reducible repeat (first | refine blk_drewN ?_ _ | refine blk_drew ?_ | refine blk_alloc ?_ _)); exact BK157.out) hb); have n4_ := Aside0.mk (blk_below (g := gb162) (o := .cells #[.slice Ao16 t158.length co16, .string t161] 25 (0, 0)) (by (with_reducible repeat (first | refine blk_drewN ?_ _ | refine blk_drew ?_ | refine blk_alloc ?_ _)); refine blk_put (cs := #[.slice Ao16 t158.length co16, .string (⟨#[]⟩ : ByteArray)]) ?_ 1 _ rfl; (with_reducible repeat (first | refine blk_drewN ?_ _ | refine blk_drew ?_ | refine blk_alloc ?_ _)); refine blk_put (cs := #[.slice none 0 0, .string (⟨#[]⟩ : ByteArray)]) ?_ 0 _ rfl; (with_reducible repeat (first | refine blk_drewN ?_ _ | refine blk_drew ?_ | refine blk_alloc ?_ _)); exact BK162.out) hb); have n5_ := Aside0.mk (below_step (by repeat (first | (with_reducible first | exact HB.out | apply below_alloc | apply pw_below_drewN | apply below_drew1 | refine below_set ?_ GE152.out | refine below_set ?_ GE157.out | refine below_set ?_ GE162.out) | exact HB.out)) hb); clear HO155; clear HO160; clear BK152; clear BK157; clear BK162; clear HB; have HO155 := n0_; have HO160 := n1_; have BK152 := n2_; have BK157 := n3_; have BK162 := n4_; have HB := n5_; clear n0_ n1_ n2_ n3_ n4_ n5_; (try clear hb); (try clear hb2); (try clear hk); (try clear hi); have hcz21_0 : w20.cell? ⟨gb157, 0, none⟩ = some (.slice Ao11 t153.length co11) := (blk_cell BK157.out 0).trans rfl; have hcz21_1 : w20.cell? ⟨gb157, 1, none⟩ = some (.string t156) := (blk_cell BK157.out 1).trans rfl; have hfz21_0 := blk_frozen BK157.out 0; have hfz21_1 := blk_frozen BK157.out 1) | ((with_reducible refine gate_callee (f := 20) rfl ?_); refine goesL_ (some 23) rfl rfl Tryz.func20 (by kernel_rfl) rfl #[.agg #[.slice Ao11 t153.length co11, .string t156]] rfl (by (try simp only [List.map_toArray, List.map_cons, List.map_nil]); first | done | rfl | (simp only [List.length_drop, List.length_take]; rfl)) ?_; (with_reducible refine (PA.bulletinref15_Print.calls k _ _ t153 t156 t165 t166 _ ?side1 ?side2 A5.out).mono ?_); (case side1 => repeat (first | exact (Kd.R_reads' HO155.out).2.2 | (with_reducible refine Kd.C_alloc ?_ _) | (with_reducible refine Kd.C_drewN ?_ _) | (with_reducible refine Kd.C_drew ?_))); (case side2 => exact (Kd.R_reads' HO155.out).2.1); rintro e w22 ⟨rfl, hb⟩; refine ⟨_, rfl, ?_⟩; have n0_ := Aside0.mk (Kd.R_below (by (with_reducible repeat (first | apply Kd.R_alloc | apply Kd.R_drewN | apply Kd.R_drew)); exact HO155.out) hb); have n1_ := Aside0.mk (Kd.R_below (by (with_reducible repeat (first | apply Kd.R_alloc | apply Kd.R_drewN | apply Kd.R_drew)); exact HO160.out) hb); have n2_ := Aside0.mk (blk_below (g := gb152) (o := .cells #[.slice A0_0 l0_0.length c0_0, .string a0_1] 25 (0, 0)) (by (with_reducible repeat (first | refine blk_drewN ?_ _ | refine blk_drew ?_ | refine blk_alloc ?_ _)); exact BK152.out) hb); have n3_ := Aside0.mk (blk_below (g := gb157) (o := .cells #[.slice Ao11 t153.length co11, .string t156] 31 (0, 0)) (by (with_reducible repeat (first | refine blk_drewN ?_ _ | refine blk_drew ?_ | refine blk_alloc ?_ _)); exact BK157.out) hb); have n4_ := Aside0.mk (blk_below (g := gb162) (o := .cells #[.slice Ao16 t158.length co16, .string t161] 25 (0, 0)) (by (with_reducible repeat (first | refine blk_drewN ?_ _ | refine blk_drew ?_ | refine blk_alloc ?_ _)); exact BK162.out) hb); have n5_ := Aside0.mk (below_step (by repeat (first | (with_reducible first | exact HB.out | apply below_alloc | apply pw_below_drewN | apply below_drew1 | refine below_set ?_ GE152.out | refine below_set ?_ GE157.out | refine below_set ?_ GE162.out) | exact HB.out)) hb); clear HO155; clear HO160; clear BK152; clear BK157; clear BK162; clear HB; have HO155 := n0_; have HO160 := n1_; have BK152 := n2_; have BK157 := n3_; have BK162 := n4_; have HB := n5_; clear n0_ n1_ n2_ n3_ n4_ n5_; (try clear hb); (try clear hb2); (try clear hk); (try clear hi)))
  (try simp only [Act.put, List.setIfInBounds_toArray, List.set_cons_zero, List.set_cons_succ])
  go_cut [43] (fun v43 wc => ∃ (kq : Nat) (x43_5 : Bool), v43 = .bool x43_5 ∧ Aside0 (bulletinlaw15_ArticlePrints.j0 kq t163 t164 x43_5 t153 t156 = some r) ∧ Aside0 (kq ≤ k) ∧ Aside0 (Kd.R k78 78 wc w.heap.size (fun _ => True) (.slice Ao11 t153.length co11) t153) ∧ Aside0 (Kd.R k76 76 wc w.heap.size (fun _ => True) (.slice Ao16 t158.length co16) t158) ∧ Aside0 (wc.heap[gb152]? = some (.cells #[(.slice A0_0 l0_0.length c0_0), .string a0_1] 25 (0, 0))) ∧ Aside0 (wc.heap[gb157]? = some (.cells #[(.slice Ao11 t153.length co11), .string t156] 31 (0, 0))) ∧ Aside0 (wc.heap[gb162]? = some (.cells #[(.slice Ao16 t158.length co16), .string t161] 25 (0, 0))) ∧ Aside0 (Below w.heap.size w wc))
  case first =>
    have H := HC6.out
    clear HC6
    replace H := Option.bind_eq_some_iff.mp H
    obtain ⟨t167, A230, H⟩ := H
    replace H : (if t167 = true then (if t163.toList = t165.toList then (if t164 = t166 then ((PC.article_Article_Check.f k t158 t161).bind fun t168 => (bulletinlaw15_ArticlePrints.j0 k t163 t164 (t168 != t164) t153 t156)) else (bulletinlaw15_ArticlePrints.j0 k t163 t164 true t153 t156)) else (bulletinlaw15_ArticlePrints.j0 k t163 t164 true t153 t156)) else (bulletinlaw15_ArticlePrints.j0 k t163 t164 true t153 t156)) = some r := H
    have A23 := Aside0.mk A230
    clear A230
    by_cases c24 : t167 = true
    · subst c24
      have H1 : (if t163.toList = t165.toList then (if t164 = t166 then ((PC.article_Article_Check.f k t158 t161).bind fun t168 => (bulletinlaw15_ArticlePrints.j0 k t163 t164 (t168 != t164) t153 t156)) else (bulletinlaw15_ArticlePrints.j0 k t163 t164 true t153 t156)) else (bulletinlaw15_ArticlePrints.j0 k t163 t164 true t153 t156)) = some r := by rw [if_pos rfl] at H; exact H
      clear H
      have H := H1
      clear H1
      by_cases c25 : t163.toList = t165.toList
      · rw [if_pos c25] at H
        have c25b0 : (t163.toList == t165.toList) = true := beq_iff_eq.mpr c25
        have c25b1 : (t163.toList != t165.toList) = false := bne_eq_false_iff_eq.mpr c25
        clear c25
        (first | rw [c25b0] | (simp only [i64_w, i32_w]; rw [c25b0]) | skip)
        by_cases c26 : t164 = t166
        · rw [if_pos c26] at H
          have c26b0 : (t164 == t166) = true := beq_iff_eq.mpr c26
          have c26b1 : (t164 != t166) = false := bne_eq_false_iff_eq.mpr c26
          clear c26
          replace H := Option.bind_eq_some_iff.mp H
          obtain ⟨t168, A270, H⟩ := H
          replace H : (bulletinlaw15_ArticlePrints.j0 k t163 t164 (t168 != t164) t153 t156) = some r := H
          have A27 := Aside0.mk A270
          clear A270
          have H' := Aside0.mk H
          clear H
          go_wp2_with (first | ((with_reducible refine gate_callee (f := 14) rfl ?_); refine goesL_ (some 26) rfl rfl Tryz.func14 (by kernel_rfl) rfl #[] rfl (by (try simp only [List.map_toArray, List.map_cons, List.map_nil]); first | done | rfl | (simp only [List.length_drop, List.length_take]; rfl)) ?_; (with_reducible refine (GV.known.calls  true _ ?side1 A23.out).mono ?_); (case side1 => exact gm_at HGM.out (by repeat (first | (with_reducible first | exact HB.out | apply below_alloc | apply pw_below_drewN | apply below_drew1 | refine below_set ?_ GE152.out | refine below_set ?_ GE157.out | refine below_set ?_ GE162.out) | exact HB.out))); rintro e w28 ⟨rfl, hb⟩; refine ⟨_, rfl, ?_⟩; have n0_ := Aside0.mk (Kd.R_below (by (with_reducible repeat (first | apply Kd.R_alloc | apply Kd.R_drewN | apply Kd.R_drew)); exact HO155.out) hb); have n1_ := Aside0.mk (Kd.R_below (by (with_reducible repeat (first | apply Kd.R_alloc | apply Kd.R_drewN | apply Kd.R_drew)); exact HO160.out) hb); have n2_ := Aside0.mk (blk_below (g := gb152) (o := .cells #[.slice A0_0 l0_0.length c0_0, .string a0_1] 25 (0, 0)) (by (with_reducible repeat (first | refine blk_drewN ?_ _ | refine blk_drew ?_ | refine blk_alloc ?_ _)); exact BK152.out) hb); have n3_ := Aside0.mk (blk_below (g := gb157) (o := .cells #[.slice Ao11 t153.length co11, .string t156] 31 (0, 0)) (by (with_reducible repeat (first | refine blk_drewN ?_ _ | refine blk_drew ?_ | refine blk_alloc ?_ _)); exact BK157.out) hb); have n4_ := Aside0.mk (blk_below (g := gb162) (o := .cells #[.slice Ao16 t158.length co16, .string t161] 25 (0, 0)) (by (with_reducible repeat (first | refine blk_drewN ?_ _ | refine blk_drew ?_ | refine blk_alloc ?_ _)); exact BK162.out) hb); have n5_ := Aside0.mk (below_step (by repeat (first | (with_reducible first | exact HB.out | apply below_alloc | apply pw_below_drewN | apply below_drew1 | refine below_set ?_ GE152.out | refine below_set ?_ GE157.out | refine below_set ?_ GE162.out) | exact HB.out)) hb); clear HO155; clear HO160; clear BK152; clear BK157; clear BK162; clear HB; have HO155 := n0_; have HO160 := n1_; have BK152 := n2_; have BK157 := n3_; have BK162 := n4_; have HB := n5_; clear n0_ n1_ n2_ n3_ n4_ n5_; (try clear hb); (try clear hb2); (try clear hk); (try clear hi); have hnb29 := NB162_152.out; have hnc29 := NB152_162.out; have hnb30 := NB162_157.out; have hnc30 := NB157_162.out; have hcz31_0 : w28.cell? ⟨gb162, 0, none⟩ = some (.slice Ao16 t158.length co16) := (blk_cell BK162.out 0).trans rfl; have hcz31_1 : w28.cell? ⟨gb162, 1, none⟩ = some (.string t161) := (blk_cell BK162.out 1).trans rfl; have hfz31_0 := blk_frozen BK162.out 0; have hfz31_1 := blk_frozen BK162.out 1) | (go_at_call 26; (with_reducible refine (PC.article_Article_Check.calls k _ _ t158 t161 t168 _ ?side1 ?side2 A27.out).mono ?_); (case side1 => repeat (first | exact (Kd.R_reads' HO160.out).2.2 | (with_reducible refine Kd.C_alloc ?_ _) | (with_reducible refine Kd.C_drewN ?_ _) | (with_reducible refine Kd.C_drew ?_))); (case side2 => exact (Kd.R_reads' HO160.out).2.1); rintro e w32 ⟨rfl, hb⟩; have n0_ := Aside0.mk (Kd.R_below (by (with_reducible repeat (first | apply Kd.R_alloc | apply Kd.R_drewN | apply Kd.R_drew)); exact HO155.out) hb); have n1_ := Aside0.mk (Kd.R_below (by (with_reducible repeat (first | apply Kd.R_alloc | apply Kd.R_drewN | apply Kd.R_drew)); exact HO160.out) hb); have n2_ := Aside0.mk (blk_below (g := gb152) (o := .cells #[.slice A0_0 l0_0.length c0_0, .string a0_1] 25 (0, 0)) (by (with_reducible repeat (first | refine blk_drewN ?_ _ | refine blk_drew ?_ | refine blk_alloc ?_ _)); exact BK152.out) hb); have n3_ := Aside0.mk (blk_below (g := gb157) (o := .cells #[.slice Ao11 t153.length co11, .string t156] 31 (0, 0)) (by (with_reducible repeat (first | refine blk_drewN ?_ _ | refine blk_drew ?_ | refine blk_alloc ?_ _)); exact BK157.out) hb); have n4_ := Aside0.mk (blk_below (g := gb162) (o := .cells #[.slice Ao16 t158.length co16, .string t161] 25 (0, 0)) (by (with_reducible repeat (first | refine blk_drewN ?_ _ | refine blk_drew ?_ | refine blk_alloc ?_ _)); exact BK162.out) hb); have n5_ := Aside0.mk (below_step (by repeat (first | (with_reducible first | exact HB.out | apply below_alloc | apply pw_below_drewN | apply below_drew1 | refine below_set ?_ GE152.out | refine below_set ?_ GE157.out | refine below_set ?_ GE162.out) | exact HB.out)) hb); clear HO155; clear HO160; clear BK152; clear BK157; clear BK162; clear HB; have HO155 := n0_; have HO160 := n1_; have BK152 := n2_; have BK157 := n3_; have BK162 := n4_; have HB := n5_; clear n0_ n1_ n2_ n3_ n4_ n5_; (try clear hb); (try clear hb2); (try clear hk); (try clear hi)))
          go_meet
          case rel => exact ⟨_, ((t168 != t164)), (by first | rfl | (simp; done) | (simp [*]; done)), H', ⟨by first | omega | exact Nat.le_refl _⟩, ⟨by (with_reducible repeat (first | apply Kd.R_alloc | apply Kd.R_drewN | apply Kd.R_drew)); exact HO155.out⟩, ⟨by (with_reducible repeat (first | apply Kd.R_alloc | apply Kd.R_drewN | apply Kd.R_drew)); exact HO160.out⟩, ⟨by (with_reducible repeat (first | refine blk_drewN ?_ _ | refine blk_drew ?_ | refine blk_alloc ?_ _)); exact BK152.out⟩, ⟨by (with_reducible repeat (first | refine blk_drewN ?_ _ | refine blk_drew ?_ | refine blk_alloc ?_ _)); exact BK157.out⟩, ⟨by (with_reducible repeat (first | refine blk_drewN ?_ _ | refine blk_drew ?_ | refine blk_alloc ?_ _)); exact BK162.out⟩, ⟨by repeat (first | (with_reducible first | exact HB.out | apply below_alloc | apply pw_below_drewN | apply below_drew1 | refine below_set ?_ GE152.out | refine below_set ?_ GE157.out | refine below_set ?_ GE162.out) | exact HB.out)⟩⟩
        · rw [if_neg c26] at H
          have c26b0 : (t164 == t166) = false := beq_eq_false_iff_ne.mpr c26
          have c26b1 : (t164 != t166) = true := bne_iff_ne.mpr c26
          have H' := Aside0.mk H
          clear H
          go_wp2_with (first | ((with_reducible refine gate_callee (f := 14) rfl ?_); refine goesL_ (some 26) rfl rfl Tryz.func14 (by kernel_rfl) rfl #[] rfl (by (try simp only [List.map_toArray, List.map_cons, List.map_nil]); first | done | rfl | (simp only [List.length_drop, List.length_take]; rfl)) ?_; (with_reducible refine (GV.known.calls  true _ ?side1 A23.out).mono ?_); (case side1 => exact gm_at HGM.out (by repeat (first | (with_reducible first | exact HB.out | apply below_alloc | apply pw_below_drewN | apply below_drew1 | refine below_set ?_ GE152.out | refine below_set ?_ GE157.out | refine below_set ?_ GE162.out) | exact HB.out))); rintro e w33 ⟨rfl, hb⟩; refine ⟨_, rfl, ?_⟩; have n0_ := Aside0.mk (Kd.R_below (by (with_reducible repeat (first | apply Kd.R_alloc | apply Kd.R_drewN | apply Kd.R_drew)); exact HO155.out) hb); have n1_ := Aside0.mk (Kd.R_below (by (with_reducible repeat (first | apply Kd.R_alloc | apply Kd.R_drewN | apply Kd.R_drew)); exact HO160.out) hb); have n2_ := Aside0.mk (blk_below (g := gb152) (o := .cells #[.slice A0_0 l0_0.length c0_0, .string a0_1] 25 (0, 0)) (by (with_reducible repeat (first | refine blk_drewN ?_ _ | refine blk_drew ?_ | refine blk_alloc ?_ _)); exact BK152.out) hb); have n3_ := Aside0.mk (blk_below (g := gb157) (o := .cells #[.slice Ao11 t153.length co11, .string t156] 31 (0, 0)) (by (with_reducible repeat (first | refine blk_drewN ?_ _ | refine blk_drew ?_ | refine blk_alloc ?_ _)); exact BK157.out) hb); have n4_ := Aside0.mk (blk_below (g := gb162) (o := .cells #[.slice Ao16 t158.length co16, .string t161] 25 (0, 0)) (by (with_reducible repeat (first | refine blk_drewN ?_ _ | refine blk_drew ?_ | refine blk_alloc ?_ _)); exact BK162.out) hb); have n5_ := Aside0.mk (below_step (by repeat (first | (with_reducible first | exact HB.out | apply below_alloc | apply pw_below_drewN | apply below_drew1 | refine below_set ?_ GE152.out | refine below_set ?_ GE157.out | refine below_set ?_ GE162.out) | exact HB.out)) hb); clear HO155; clear HO160; clear BK152; clear BK157; clear BK162; clear HB; have HO155 := n0_; have HO160 := n1_; have BK152 := n2_; have BK157 := n3_; have BK162 := n4_; have HB := n5_; clear n0_ n1_ n2_ n3_ n4_ n5_; (try clear hb); (try clear hb2); (try clear hk); (try clear hi)))
          go_meet
          case rel => exact ⟨_, (true), (by first | rfl | (simp; done) | (simp [*]; done)), H', ⟨by first | omega | exact Nat.le_refl _⟩, ⟨by (with_reducible repeat (first | apply Kd.R_alloc | apply Kd.R_drewN | apply Kd.R_drew)); exact HO155.out⟩, ⟨by (with_reducible repeat (first | apply Kd.R_alloc | apply Kd.R_drewN | apply Kd.R_drew)); exact HO160.out⟩, ⟨by (with_reducible repeat (first | refine blk_drewN ?_ _ | refine blk_drew ?_ | refine blk_alloc ?_ _)); exact BK152.out⟩, ⟨by (with_reducible repeat (first | refine blk_drewN ?_ _ | refine blk_drew ?_ | refine blk_alloc ?_ _)); exact BK157.out⟩, ⟨by (with_reducible repeat (first | refine blk_drewN ?_ _ | refine blk_drew ?_ | refine blk_alloc ?_ _)); exact BK162.out⟩, ⟨by repeat (first | (with_reducible first | exact HB.out | apply below_alloc | apply pw_below_drewN | apply below_drew1 | refine below_set ?_ GE152.out | refine below_set ?_ GE157.out | refine below_set ?_ GE162.out) | exact HB.out)⟩⟩
      · rw [if_neg c25] at H
        have c25b0 : (t163.toList == t165.toList) = false := beq_eq_false_iff_ne.mpr c25
        have c25b1 : (t163.toList != t165.toList) = true := bne_iff_ne.mpr c25
        (first | rw [c25b0] | (simp only [i64_w, i32_w]; rw [c25b0]) | skip)
        have H' := Aside0.mk H
        clear H
        go_wp2_with (first | ((with_reducible refine gate_callee (f := 14) rfl ?_); refine goesL_ (some 26) rfl rfl Tryz.func14 (by kernel_rfl) rfl #[] rfl (by (try simp only [List.map_toArray, List.map_cons, List.map_nil]); first | done | rfl | (simp only [List.length_drop, List.length_take]; rfl)) ?_; (with_reducible refine (GV.known.calls  true _ ?side1 A23.out).mono ?_); (case side1 => exact gm_at HGM.out (by repeat (first | (with_reducible first | exact HB.out | apply below_alloc | apply pw_below_drewN | apply below_drew1 | refine below_set ?_ GE152.out | refine below_set ?_ GE157.out | refine below_set ?_ GE162.out) | exact HB.out))); rintro e w34 ⟨rfl, hb⟩; refine ⟨_, rfl, ?_⟩; have n0_ := Aside0.mk (Kd.R_below (by (with_reducible repeat (first | apply Kd.R_alloc | apply Kd.R_drewN | apply Kd.R_drew)); exact HO155.out) hb); have n1_ := Aside0.mk (Kd.R_below (by (with_reducible repeat (first | apply Kd.R_alloc | apply Kd.R_drewN | apply Kd.R_drew)); exact HO160.out) hb); have n2_ := Aside0.mk (blk_below (g := gb152) (o := .cells #[.slice A0_0 l0_0.length c0_0, .string a0_1] 25 (0, 0)) (by (with_reducible repeat (first | refine blk_drewN ?_ _ | refine blk_drew ?_ | refine blk_alloc ?_ _)); exact BK152.out) hb); have n3_ := Aside0.mk (blk_below (g := gb157) (o := .cells #[.slice Ao11 t153.length co11, .string t156] 31 (0, 0)) (by (with_reducible repeat (first | refine blk_drewN ?_ _ | refine blk_drew ?_ | refine blk_alloc ?_ _)); exact BK157.out) hb); have n4_ := Aside0.mk (blk_below (g := gb162) (o := .cells #[.slice Ao16 t158.length co16, .string t161] 25 (0, 0)) (by (with_reducible repeat (first | refine blk_drewN ?_ _ | refine blk_drew ?_ | refine blk_alloc ?_ _)); exact BK162.out) hb); have n5_ := Aside0.mk (below_step (by repeat (first | (with_reducible first | exact HB.out | apply below_alloc | apply pw_below_drewN | apply below_drew1 | refine below_set ?_ GE152.out | refine below_set ?_ GE157.out | refine below_set ?_ GE162.out) | exact HB.out)) hb); clear HO155; clear HO160; clear BK152; clear BK157; clear BK162; clear HB; have HO155 := n0_; have HO160 := n1_; have BK152 := n2_; have BK157 := n3_; have BK162 := n4_; have HB := n5_; clear n0_ n1_ n2_ n3_ n4_ n5_; (try clear hb); (try clear hb2); (try clear hk); (try clear hi)))
        go_meet
        case rel => exact ⟨_, (true), (by first | rfl | (simp; done) | (simp [*]; done)), H', ⟨by first | omega | exact Nat.le_refl _⟩, ⟨by (with_reducible repeat (first | apply Kd.R_alloc | apply Kd.R_drewN | apply Kd.R_drew)); exact HO155.out⟩, ⟨by (with_reducible repeat (first | apply Kd.R_alloc | apply Kd.R_drewN | apply Kd.R_drew)); exact HO160.out⟩, ⟨by (with_reducible repeat (first | refine blk_drewN ?_ _ | refine blk_drew ?_ | refine blk_alloc ?_ _)); exact BK152.out⟩, ⟨by (with_reducible repeat (first | refine blk_drewN ?_ _ | refine blk_drew ?_ | refine blk_alloc ?_ _)); exact BK157.out⟩, ⟨by (with_reducible repeat (first | refine blk_drewN ?_ _ | refine blk_drew ?_ | refine blk_alloc ?_ _)); exact BK162.out⟩, ⟨by repeat (first | (with_reducible first | exact HB.out | apply below_alloc | apply pw_below_drewN | apply below_drew1 | refine below_set ?_ GE152.out | refine below_set ?_ GE157.out | refine below_set ?_ GE162.out) | exact HB.out)⟩⟩
    · replace c24 := Bool.eq_false_iff.mpr c24
      subst c24
      have H1 : (bulletinlaw15_ArticlePrints.j0 k t163 t164 true t153 t156) = some r := by rw [if_neg (show ¬ (false = true) by decide)] at H; exact H
      clear H
      have H := H1
      clear H1
      have H' := Aside0.mk H
      clear H
      go_wp2_with (first | ((with_reducible refine gate_callee (f := 14) rfl ?_); refine goesL_ (some 26) rfl rfl Tryz.func14 (by kernel_rfl) rfl #[] rfl (by (try simp only [List.map_toArray, List.map_cons, List.map_nil]); first | done | rfl | (simp only [List.length_drop, List.length_take]; rfl)) ?_; (with_reducible refine (GV.known.calls  false _ ?side1 A23.out).mono ?_); (case side1 => exact gm_at HGM.out (by repeat (first | (with_reducible first | exact HB.out | apply below_alloc | apply pw_below_drewN | apply below_drew1 | refine below_set ?_ GE152.out | refine below_set ?_ GE157.out | refine below_set ?_ GE162.out) | exact HB.out))); rintro e w35 ⟨rfl, hb⟩; refine ⟨_, rfl, ?_⟩; have n0_ := Aside0.mk (Kd.R_below (by (with_reducible repeat (first | apply Kd.R_alloc | apply Kd.R_drewN | apply Kd.R_drew)); exact HO155.out) hb); have n1_ := Aside0.mk (Kd.R_below (by (with_reducible repeat (first | apply Kd.R_alloc | apply Kd.R_drewN | apply Kd.R_drew)); exact HO160.out) hb); have n2_ := Aside0.mk (blk_below (g := gb152) (o := .cells #[.slice A0_0 l0_0.length c0_0, .string a0_1] 25 (0, 0)) (by (with_reducible repeat (first | refine blk_drewN ?_ _ | refine blk_drew ?_ | refine blk_alloc ?_ _)); exact BK152.out) hb); have n3_ := Aside0.mk (blk_below (g := gb157) (o := .cells #[.slice Ao11 t153.length co11, .string t156] 31 (0, 0)) (by (with_reducible repeat (first | refine blk_drewN ?_ _ | refine blk_drew ?_ | refine blk_alloc ?_ _)); exact BK157.out) hb); have n4_ := Aside0.mk (blk_below (g := gb162) (o := .cells #[.slice Ao16 t158.length co16, .string t161] 25 (0, 0)) (by (with_reducible repeat (first | refine blk_drewN ?_ _ | refine blk_drew ?_ | refine blk_alloc ?_ _)); exact BK162.out) hb); have n5_ := Aside0.mk (below_step (by repeat (first | (with_reducible first | exact HB.out | apply below_alloc | apply pw_below_drewN | apply below_drew1 | refine below_set ?_ GE152.out | refine below_set ?_ GE157.out | refine below_set ?_ GE162.out) | exact HB.out)) hb); clear HO155; clear HO160; clear BK152; clear BK157; clear BK162; clear HB; have HO155 := n0_; have HO160 := n1_; have BK152 := n2_; have BK157 := n3_; have BK162 := n4_; have HB := n5_; clear n0_ n1_ n2_ n3_ n4_ n5_; (try clear hb); (try clear hb2); (try clear hk); (try clear hi)))
      go_meet
      case rel => exact ⟨_, (true), (by first | rfl | (simp; done) | (simp [*]; done)), H', ⟨by first | omega | exact Nat.le_refl _⟩, ⟨by (with_reducible repeat (first | apply Kd.R_alloc | apply Kd.R_drewN | apply Kd.R_drew)); exact HO155.out⟩, ⟨by (with_reducible repeat (first | apply Kd.R_alloc | apply Kd.R_drewN | apply Kd.R_drew)); exact HO160.out⟩, ⟨by (with_reducible repeat (first | refine blk_drewN ?_ _ | refine blk_drew ?_ | refine blk_alloc ?_ _)); exact BK152.out⟩, ⟨by (with_reducible repeat (first | refine blk_drewN ?_ _ | refine blk_drew ?_ | refine blk_alloc ?_ _)); exact BK157.out⟩, ⟨by (with_reducible repeat (first | refine blk_drewN ?_ _ | refine blk_drew ?_ | refine blk_alloc ?_ _)); exact BK162.out⟩, ⟨by repeat (first | (with_reducible first | exact HB.out | apply below_alloc | apply pw_below_drewN | apply below_drew1 | refine below_set ?_ GE152.out | refine below_set ?_ GE157.out | refine below_set ?_ GE162.out) | exact HB.out)⟩⟩
  case rest =>
    clear HC6
    try clear c1
    try clear c2
    try clear p2
    try clear c3
    try clear c7
    try clear c12
    try clear c14
    try clear c16
    try clear c17
    try clear c18
    try clear c19
    try clear c20
    try clear c24
    try clear c25
    try clear c25b0
    try clear c25b1
    try clear c26
    try clear c26b0
    try clear c26b1
    try clear c29
    try clear c30
    try clear hcz13_0
    try clear hcz13_1
    try clear hcz19_0
    try clear hcz19_1
    try clear hcz21_0
    try clear hcz21_1
    try clear hcz31_0
    try clear hcz31_1
    try clear hcz8_0
    try clear hcz8_1
    try clear hfz13_0
    try clear hfz13_1
    try clear hfz19_0
    try clear hfz19_1
    try clear hfz21_0
    try clear hfz21_1
    try clear hfz31_0
    try clear hfz31_1
    try clear hfz8_0
    try clear hfz8_1
    obtain ⟨kq, x43_5, rfl, HA, HJ5, HO_158000, HO_163000, BK152, BK157, BK162, HB⟩ := hcut
    cases kq with
    | zero => exact absurd HA.out (by simp [bulletinlaw15_ArticlePrints.j0])
    | succ kj5 =>
      have H := HA.out
      clear HA
      simp only [bulletinlaw15_ArticlePrints.j0] at H
      by_cases c36 : x43_5 = true
      · subst c36
        have H1 : (some false) = some r := by rw [if_pos rfl] at H; exact H
        clear H
        have H := H1
        clear H1
        obtain rfl := Option.some.inj H
        go_wp2
        go_ret
        exact ⟨by first | rfl | (simp [errW_none, errW_some] <;> rfl) | (simp [*, errW_none, errW_some] <;> rfl), by repeat (first | (with_reducible first | exact HB.out | apply below_alloc | apply pw_below_drewN | apply below_drew1 | refine below_set ?_ GE152.out | refine below_set ?_ GE157.out | refine below_set ?_ GE162.out) | exact HB.out)⟩
      · replace c36 := Bool.eq_false_iff.mpr c36
        subst c36
        have H1 : ((GV.AParse.f kj5 t163).bind fun bt169 => (if t164 = 0 then (if bt169.2.2.1 = 0 then (if bt169.2.2.2 = 0 then ((PA.bulletinlaw15_same.f kj5 bt169.1 bt169.2.1 t153 t156).bind fun t176 => (some t176)) else (some false)) else (some false)) else (some true))) = some r := by rw [if_neg (show ¬ (false = true) by decide)] at H; exact H
        clear H
        have H := H1
        clear H1
        replace H := Option.bind_eq_some_iff.mp H
        obtain ⟨⟨t169, t172, t173, t174⟩, A370, H⟩ := H
        replace H : (if t164 = 0 then (if t173 = 0 then (if t174 = 0 then ((PA.bulletinlaw15_same.f kj5 t169 t172 t153 t156).bind fun t176 => (some t176)) else (some false)) else (some false)) else (some true)) = some r := H
        have A37 := Aside0.mk A370
        clear A370
        by_cases c38 : t164 = 0
        · rw [if_pos c38] at H
          have c38b0 : (t164 == 0) = true := beq_iff_eq.mpr c38
          have c38b1 : (t164 != 0) = false := bne_eq_false_iff_eq.mpr c38
          clear c38
          by_cases c39 : t173 = 0
          · rw [if_pos c39] at H
            have c39b0 : (t173 == 0) = true := beq_iff_eq.mpr c39
            have c39b1 : (t173 != 0) = false := bne_eq_false_iff_eq.mpr c39
            clear c39
            by_cases c40 : t174 = 0
            · rw [if_pos c40] at H
              have c40b0 : (t174 == 0) = true := beq_iff_eq.mpr c40
              have c40b1 : (t174 != 0) = false := bne_eq_false_iff_eq.mpr c40
              clear c40
              replace H := Option.bind_eq_some_iff.mp H
              obtain ⟨t176, A410, H⟩ := H
              replace H : (some t176) = some r := H
              have A41 := Aside0.mk A410
              clear A410
              obtain rfl := Option.some.inj H
              go_wp2_with (first | ((with_reducible refine gate_callee (f := 12) rfl ?_); refine goesL_ (some 46) rfl rfl Tryz.func12 (by kernel_rfl) rfl #[.string t163] rfl (by (try simp only [List.map_toArray, List.map_cons, List.map_nil]); first | done | rfl | (simp only [List.length_drop, List.length_take]; rfl)) ?_; (with_reducible refine (GV.AParse.calls kj5 t163 t169 t172 t173 t174 _ ?side1 A37.out).mono ?_); (case side1 => exact gm_at HGM.out (by repeat (first | (with_reducible first | exact HB.out | apply below_alloc | apply pw_below_drewN | apply below_drew1 | refine below_set ?_ GE152.out | refine below_set ?_ GE157.out | refine below_set ?_ GE162.out) | exact HB.out))); rintro e w42 ⟨v170, rfl, ho0, hb⟩; refine ⟨_, rfl, ?_⟩; have n0_ := Aside0.mk (Kd.R_below (by (with_reducible repeat (first | apply Kd.R_alloc | apply Kd.R_drewN | apply Kd.R_drew)); exact HO_158000.out) hb); have n1_ := Aside0.mk (Kd.R_elder' (by (with_reducible repeat (first | apply Kd.R_alloc | apply Kd.R_drewN | apply Kd.R_drew)); exact HO_163000.out) (Kd.R_base ho0) hb); have n2_ := Aside0.mk (Kd.R_lower (Kd.R_new' ho0 (Kd.R_lt (by (with_reducible repeat (first | apply Kd.R_alloc | apply Kd.R_drewN | apply Kd.R_drew)); exact HO_163000.out))) (below_size (by repeat (first | (with_reducible first | exact HB.out | apply below_alloc | apply pw_below_drewN | apply below_drew1 | refine below_set ?_ GE152.out | refine below_set ?_ GE157.out | refine below_set ?_ GE162.out) | exact HB.out)))); have n3_ := Aside0.mk (blk_below (g := gb152) (o := .cells #[.slice A0_0 l0_0.length c0_0, .string a0_1] 25 (0, 0)) (by (with_reducible repeat (first | refine blk_drewN ?_ _ | refine blk_drew ?_ | refine blk_alloc ?_ _)); exact BK152.out) hb); have n4_ := Aside0.mk (blk_below (g := gb157) (o := .cells #[.slice Ao11 t153.length co11, .string t156] 31 (0, 0)) (by (with_reducible repeat (first | refine blk_drewN ?_ _ | refine blk_drew ?_ | refine blk_alloc ?_ _)); exact BK157.out) hb); have n5_ := Aside0.mk (blk_below (g := gb162) (o := .cells #[.slice Ao16 t158.length co16, .string t161] 25 (0, 0)) (by (with_reducible repeat (first | refine blk_drewN ?_ _ | refine blk_drew ?_ | refine blk_alloc ?_ _)); exact BK162.out) hb); have n6_ := Aside0.mk (below_step (by repeat (first | (with_reducible first | exact HB.out | apply below_alloc | apply pw_below_drewN | apply below_drew1 | refine below_set ?_ GE152.out | refine below_set ?_ GE157.out | refine below_set ?_ GE162.out) | exact HB.out)) hb); clear HO_158000; clear HO_163000; clear BK152; clear BK157; clear BK162; clear HB; have HO_158000 := n0_; have HO_163000 := n1_; have HO171 := n2_; have BK152 := n3_; have BK157 := n4_; have BK162 := n5_; have HB := n6_; clear n0_ n1_ n2_ n3_ n4_ n5_ n6_; (try clear hb); (try clear hb2); (try clear hk); (try clear hi); (try clear ho0)) | ((with_reducible refine gate_dst (N := 9) rfl ?_); refine box_event ?hg (N := 9) ?hd (cs := #[.slice none 0 0, .string (⟨#[]⟩ : ByteArray)]) (t := 25) ?hr ?_; (case hd => rfl); (case hg => rfl); (case hr => first | (go_simp; done) | (go_simp; rfl)); intro gb175 hg w43 hbox hb; have n0_ := Aside0.mk (Kd.R_below (by (with_reducible repeat (first | apply Kd.R_alloc | apply Kd.R_drewN | apply Kd.R_drew)); exact HO_158000.out) hb); have n1_ := Aside0.mk (Kd.R_below (by (with_reducible repeat (first | apply Kd.R_alloc | apply Kd.R_drewN | apply Kd.R_drew)); exact HO_163000.out) hb); have n2_ := Aside0.mk (Kd.R_below (by (with_reducible repeat (first | apply Kd.R_alloc | apply Kd.R_drewN | apply Kd.R_drew)); exact HO171.out) hb); have n3_ := Aside0.mk (blk_below (g := gb152) (o := .cells #[.slice A0_0 l0_0.length c0_0, .string a0_1] 25 (0, 0)) (by (with_reducible repeat (first | refine blk_drewN ?_ _ | refine blk_drew ?_ | refine blk_alloc ?_ _)); exact BK152.out) hb); have n4_ := Aside0.mk (blk_below (g := gb157) (o := .cells #[.slice Ao11 t153.length co11, .string t156] 31 (0, 0)) (by (with_reducible repeat (first | refine blk_drewN ?_ _ | refine blk_drew ?_ | refine blk_alloc ?_ _)); exact BK157.out) hb); have n5_ := Aside0.mk (blk_below (g := gb162) (o := .cells #[.slice Ao16 t158.length co16, .string t161] 25 (0, 0)) (by (with_reducible repeat (first | refine blk_drewN ?_ _ | refine blk_drew ?_ | refine blk_alloc ?_ _)); exact BK162.out) hb); have n6_ := Aside0.mk (below_step (by repeat (first | (with_reducible first | exact HB.out | apply below_alloc | apply pw_below_drewN | apply below_drew1 | refine below_set ?_ GE152.out | refine below_set ?_ GE157.out | refine below_set ?_ GE162.out) | exact HB.out)) hb); have n7_ := Aside0.mk (hbox); have n8_ := Aside0.mk ((by rw [hg]; exact (below_size (by repeat (first | (with_reducible first | exact HB.out | apply below_alloc | apply pw_below_drewN | apply below_drew1 | refine below_set ?_ GE152.out | refine below_set ?_ GE157.out | refine below_set ?_ GE162.out) | exact HB.out))) : w.heap.size ≤ gb175)); have n9_ := Aside0.mk ((by rw [hg]; exact (below_size (by repeat (first | (with_reducible first | exact HB.out | apply below_alloc | apply pw_below_drewN | apply below_drew1 | refine below_set ?_ GE152.out | refine below_set ?_ GE157.out | refine below_set ?_ GE162.out) | exact HB.out))) : w.heap.size ≤ gb175)); have n10_ := Aside0.mk ((by rw [hg]; exact Nat.ne_of_lt (blk_lt (g := gb152) (o := .cells #[.slice A0_0 l0_0.length c0_0, .string a0_1] 25 (0, 0)) (by (with_reducible repeat (first | refine blk_drewN ?_ _ | refine blk_drew ?_ | refine blk_alloc ?_ _)); exact BK152.out)) : gb152 ≠ gb175)); have n11_ := Aside0.mk ((by rw [hg]; exact Nat.ne_of_gt (blk_lt (g := gb152) (o := .cells #[.slice A0_0 l0_0.length c0_0, .string a0_1] 25 (0, 0)) (by (with_reducible repeat (first | refine blk_drewN ?_ _ | refine blk_drew ?_ | refine blk_alloc ?_ _)); exact BK152.out)) : gb175 ≠ gb152)); have n12_ := Aside0.mk ((by rw [hg]; exact Nat.ne_of_lt (blk_lt (g := gb157) (o := .cells #[.slice Ao11 t153.length co11, .string t156] 31 (0, 0)) (by (with_reducible repeat (first | refine blk_drewN ?_ _ | refine blk_drew ?_ | refine blk_alloc ?_ _)); exact BK157.out)) : gb157 ≠ gb175)); have n13_ := Aside0.mk ((by rw [hg]; exact Nat.ne_of_gt (blk_lt (g := gb157) (o := .cells #[.slice Ao11 t153.length co11, .string t156] 31 (0, 0)) (by (with_reducible repeat (first | refine blk_drewN ?_ _ | refine blk_drew ?_ | refine blk_alloc ?_ _)); exact BK157.out)) : gb175 ≠ gb157)); have n14_ := Aside0.mk ((by rw [hg]; exact Nat.ne_of_lt (blk_lt (g := gb162) (o := .cells #[.slice Ao16 t158.length co16, .string t161] 25 (0, 0)) (by (with_reducible repeat (first | refine blk_drewN ?_ _ | refine blk_drew ?_ | refine blk_alloc ?_ _)); exact BK162.out)) : gb162 ≠ gb175)); have n15_ := Aside0.mk ((by rw [hg]; exact Nat.ne_of_gt (blk_lt (g := gb162) (o := .cells #[.slice Ao16 t158.length co16, .string t161] 25 (0, 0)) (by (with_reducible repeat (first | refine blk_drewN ?_ _ | refine blk_drew ?_ | refine blk_alloc ?_ _)); exact BK162.out)) : gb175 ≠ gb162)); clear HO_158000; clear HO_163000; clear HO171; clear BK152; clear BK157; clear BK162; clear HB; have HO_158000 := n0_; have HO_163000 := n1_; have HO171 := n2_; have BK152 := n3_; have BK157 := n4_; have BK162 := n5_; have HB := n6_; have BK175 := n7_; have GW175 := n8_; have GE175 := n9_; have NB152_175 := n10_; have NB175_152 := n11_; have NB157_175 := n12_; have NB175_157 := n13_; have NB162_175 := n14_; have NB175_162 := n15_; clear n0_ n1_ n2_ n3_ n4_ n5_ n6_ n7_ n8_ n9_ n10_ n11_ n12_ n13_ n14_ n15_; clear hb hbox hg; obtain ⟨Ao44, co44, eo44⟩ := Kd.R_slice HO171.out; subst eo44; have hnb45 := NB175_152.out; have hnc45 := NB152_175.out; have hnb46 := NB175_157.out; have hnc46 := NB157_175.out; have hnb47 := NB175_162.out; have hnc47 := NB162_175.out; have hcz48_0 : w43.cell? ⟨gb175, 0, none⟩ = some (.slice none 0 0) := (blk_cell BK175.out 0).trans rfl; have hcz48_1 : w43.cell? ⟨gb175, 1, none⟩ = some (.string (⟨#[]⟩ : ByteArray)) := (blk_cell BK175.out 1).trans rfl; have hfz48_0 := blk_frozen BK175.out 0; have hfz48_1 := blk_frozen BK175.out 1; have hnb49 := NB157_152.out; have hnc49 := NB152_157.out; have hnb50 := NB157_162.out; have hnc50 := NB162_157.out; have hcz51_0 : w43.cell? ⟨gb157, 0, none⟩ = some (.slice Ao11 t153.length co11) := (blk_cell BK157.out 0).trans rfl; have hcz51_1 : w43.cell? ⟨gb157, 1, none⟩ = some (.string t156) := (blk_cell BK157.out 1).trans rfl; have hfz51_0 := blk_frozen BK157.out 0; have hfz51_1 := blk_frozen BK157.out 1) | (go_at_call 15; (with_reducible refine (PA.bulletinlaw15_same.calls kj5 _ _ t169 t172 _ _ t153 t156 t176 _ ?side1 ?side2 ?side3 ?side4 A41.out).mono ?_); (case side1 => refine (Kd.R_reads' (e := 76) (base := w.heap.size) (ok := fun k_ => (True ∧ some k_ ≠ (.slice Ao16 t158.length co16 : Value).ownBlock)) (n := t169.length) (c := co44) ?_).2.2; exact (by (with_reducible repeat (first | apply Kd.R_alloc | apply Kd.R_drewN | apply Kd.R_drew)); exact (Kd.R_mono (Kd.R_far (p := ⟨gb175, 1, none⟩) (Kd.R_far (p := ⟨gb175, 0, none⟩) (Kd.R_types HO171.out BK175.out (by decide)) (fun _ hk => hk.2) (.slice Ao44 t169.length co44)) (fun _ hk => hk.2) (.string t172)) (fun _ h_ => h_.1)))); (case side2 => exact (Kd.R_reads' HO171.out).2.1); (case side3 => refine (Kd.R_reads' (e := 78) (base := w.heap.size) (ok := fun k_ => True) (n := t153.length) (c := co11) ?_).2.2; exact (by (with_reducible repeat (first | apply Kd.R_alloc | apply Kd.R_drewN | apply Kd.R_drew)); exact (Kd.R_mono (Kd.R_far (p := ⟨gb175, 1, none⟩) (Kd.R_far (p := ⟨gb175, 0, none⟩) (Kd.R_types HO_158000.out BK175.out (by decide)) (fun _ hk => hk.2) (.slice Ao44 t169.length co44)) (fun _ hk => hk.2) (.string t172)) (fun _ h_ => h_.1)))); (case side4 => exact (Kd.R_reads' HO_158000.out).2.1); rintro e w52 ⟨rfl, hb⟩; have n0_ := Aside0.mk (Kd.R_below (by (with_reducible repeat (first | apply Kd.R_alloc | apply Kd.R_drewN | apply Kd.R_drew)); exact (Kd.R_mono (Kd.R_far (p := ⟨gb175, 1, none⟩) (Kd.R_far (p := ⟨gb175, 0, none⟩) (Kd.R_types HO_158000.out BK175.out (by decide)) (fun _ hk => hk.2) (.slice Ao44 t169.length co44)) (fun _ hk => hk.2) (.string t172)) (fun _ h_ => h_.1))) hb); have n1_ := Aside0.mk (Kd.R_below (by (with_reducible repeat (first | apply Kd.R_alloc | apply Kd.R_drewN | apply Kd.R_drew)); exact (Kd.R_mono (Kd.R_far (p := ⟨gb175, 1, none⟩) (Kd.R_far (p := ⟨gb175, 0, none⟩) (Kd.R_types HO_163000.out BK175.out (by decide)) (fun _ hk => hk.2) (.slice Ao44 t169.length co44)) (fun _ hk => hk.2) (.string t172)) (fun _ h_ => h_.1))) hb); have n2_ := Aside0.mk (Kd.R_below (by (with_reducible repeat (first | apply Kd.R_alloc | apply Kd.R_drewN | apply Kd.R_drew)); exact (Kd.R_mono (Kd.R_far (p := ⟨gb175, 1, none⟩) (Kd.R_far (p := ⟨gb175, 0, none⟩) (Kd.R_types HO171.out BK175.out (by decide)) (fun _ hk => hk.2) (.slice Ao44 t169.length co44)) (fun _ hk => hk.2) (.string t172)) (fun _ h_ => h_.1))) hb); have n3_ := Aside0.mk (blk_below (g := gb152) (o := .cells #[.slice A0_0 l0_0.length c0_0, .string a0_1] 25 (0, 0)) (by (with_reducible repeat (first | refine blk_drewN ?_ _ | refine blk_drew ?_ | refine blk_alloc ?_ _)); refine blk_far ?_ NB152_175.out _; (with_reducible repeat (first | refine blk_drewN ?_ _ | refine blk_drew ?_ | refine blk_alloc ?_ _)); refine blk_far ?_ NB152_175.out _; (with_reducible repeat (first | refine blk_drewN ?_ _ | refine blk_drew ?_ | refine blk_alloc ?_ _)); exact BK152.out) hb); have n4_ := Aside0.mk (blk_below (g := gb157) (o := .cells #[.slice Ao11 t153.length co11, .string t156] 31 (0, 0)) (by (with_reducible repeat (first | refine blk_drewN ?_ _ | refine blk_drew ?_ | refine blk_alloc ?_ _)); refine blk_far ?_ NB157_175.out _; (with_reducible repeat (first | refine blk_drewN ?_ _ | refine blk_drew ?_ | refine blk_alloc ?_ _)); refine blk_far ?_ NB157_175.out _; (with_reducible repeat (first | refine blk_drewN ?_ _ | refine blk_drew ?_ | refine blk_alloc ?_ _)); exact BK157.out) hb); have n5_ := Aside0.mk (blk_below (g := gb162) (o := .cells #[.slice Ao16 t158.length co16, .string t161] 25 (0, 0)) (by (with_reducible repeat (first | refine blk_drewN ?_ _ | refine blk_drew ?_ | refine blk_alloc ?_ _)); refine blk_far ?_ NB162_175.out _; (with_reducible repeat (first | refine blk_drewN ?_ _ | refine blk_drew ?_ | refine blk_alloc ?_ _)); refine blk_far ?_ NB162_175.out _; (with_reducible repeat (first | refine blk_drewN ?_ _ | refine blk_drew ?_ | refine blk_alloc ?_ _)); exact BK162.out) hb); have n6_ := Aside0.mk (blk_below (g := gb175) (o := .cells #[.slice Ao44 t169.length co44, .string t172] 25 (0, 0)) (by (with_reducible repeat (first | refine blk_drewN ?_ _ | refine blk_drew ?_ | refine blk_alloc ?_ _)); refine blk_put (cs := #[.slice Ao44 t169.length co44, .string (⟨#[]⟩ : ByteArray)]) ?_ 1 _ rfl; (with_reducible repeat (first | refine blk_drewN ?_ _ | refine blk_drew ?_ | refine blk_alloc ?_ _)); refine blk_put (cs := #[.slice none 0 0, .string (⟨#[]⟩ : ByteArray)]) ?_ 0 _ rfl; (with_reducible repeat (first | refine blk_drewN ?_ _ | refine blk_drew ?_ | refine blk_alloc ?_ _)); exact BK175.out) hb); have n7_ := Aside0.mk (below_step (by repeat (first | (with_reducible first | exact HB.out | apply below_alloc | apply pw_below_drewN | apply below_drew1 | refine below_set ?_ GE152.out | refine below_set ?_ GE157.out | refine below_set ?_ GE162.out | refine below_set ?_ GE175.out) | exact HB.out)) hb); clear HO_158000; clear HO_163000; clear HO171; clear BK152; clear BK157; clear BK162; clear BK175; clear HB; have HO_158000 := n0_; have HO_163000 := n1_; have HO171 := n2_; have BK152 := n3_; have BK157 := n4_; have BK162 := n5_; have BK175 := n6_; have HB := n7_; clear n0_ n1_ n2_ n3_ n4_ n5_ n6_ n7_; (try clear hb); (try clear hb2); (try clear hk); (try clear hi)))
              go_ret
              exact ⟨by first | rfl | (simp [errW_none, errW_some] <;> rfl) | (simp [*, errW_none, errW_some] <;> rfl), by repeat (first | (with_reducible first | exact HB.out | apply below_alloc | apply pw_below_drewN | apply below_drew1 | refine below_set ?_ GE152.out | refine below_set ?_ GE157.out | refine below_set ?_ GE162.out | refine below_set ?_ GE175.out) | exact HB.out)⟩
            · rw [if_neg c40] at H
              have c40b0 : (t174 == 0) = false := beq_eq_false_iff_ne.mpr c40
              have c40b1 : (t174 != 0) = true := bne_iff_ne.mpr c40
              obtain rfl := Option.some.inj H
              go_wp2_with (first | ((with_reducible refine gate_callee (f := 12) rfl ?_); refine goesL_ (some 46) rfl rfl Tryz.func12 (by kernel_rfl) rfl #[.string t163] rfl (by (try simp only [List.map_toArray, List.map_cons, List.map_nil]); first | done | rfl | (simp only [List.length_drop, List.length_take]; rfl)) ?_; (with_reducible refine (GV.AParse.calls kj5 t163 t169 t172 t173 t174 _ ?side1 A37.out).mono ?_); (case side1 => exact gm_at HGM.out (by repeat (first | (with_reducible first | exact HB.out | apply below_alloc | apply pw_below_drewN | apply below_drew1 | refine below_set ?_ GE152.out | refine below_set ?_ GE157.out | refine below_set ?_ GE162.out) | exact HB.out))); rintro e w53 ⟨v170, rfl, ho0, hb⟩; refine ⟨_, rfl, ?_⟩; have n0_ := Aside0.mk (Kd.R_below (by (with_reducible repeat (first | apply Kd.R_alloc | apply Kd.R_drewN | apply Kd.R_drew)); exact HO_158000.out) hb); have n1_ := Aside0.mk (Kd.R_elder' (by (with_reducible repeat (first | apply Kd.R_alloc | apply Kd.R_drewN | apply Kd.R_drew)); exact HO_163000.out) (Kd.R_base ho0) hb); have n2_ := Aside0.mk (Kd.R_lower (Kd.R_new' ho0 (Kd.R_lt (by (with_reducible repeat (first | apply Kd.R_alloc | apply Kd.R_drewN | apply Kd.R_drew)); exact HO_163000.out))) (below_size (by repeat (first | (with_reducible first | exact HB.out | apply below_alloc | apply pw_below_drewN | apply below_drew1 | refine below_set ?_ GE152.out | refine below_set ?_ GE157.out | refine below_set ?_ GE162.out) | exact HB.out)))); have n3_ := Aside0.mk (blk_below (g := gb152) (o := .cells #[.slice A0_0 l0_0.length c0_0, .string a0_1] 25 (0, 0)) (by (with_reducible repeat (first | refine blk_drewN ?_ _ | refine blk_drew ?_ | refine blk_alloc ?_ _)); exact BK152.out) hb); have n4_ := Aside0.mk (blk_below (g := gb157) (o := .cells #[.slice Ao11 t153.length co11, .string t156] 31 (0, 0)) (by (with_reducible repeat (first | refine blk_drewN ?_ _ | refine blk_drew ?_ | refine blk_alloc ?_ _)); exact BK157.out) hb); have n5_ := Aside0.mk (blk_below (g := gb162) (o := .cells #[.slice Ao16 t158.length co16, .string t161] 25 (0, 0)) (by (with_reducible repeat (first | refine blk_drewN ?_ _ | refine blk_drew ?_ | refine blk_alloc ?_ _)); exact BK162.out) hb); have n6_ := Aside0.mk (below_step (by repeat (first | (with_reducible first | exact HB.out | apply below_alloc | apply pw_below_drewN | apply below_drew1 | refine below_set ?_ GE152.out | refine below_set ?_ GE157.out | refine below_set ?_ GE162.out) | exact HB.out)) hb); clear HO_158000; clear HO_163000; clear BK152; clear BK157; clear BK162; clear HB; have HO_158000 := n0_; have HO_163000 := n1_; have HO171 := n2_; have BK152 := n3_; have BK157 := n4_; have BK162 := n5_; have HB := n6_; clear n0_ n1_ n2_ n3_ n4_ n5_ n6_; (try clear hb); (try clear hb2); (try clear hk); (try clear hi); (try clear ho0)) | ((with_reducible refine gate_dst (N := 9) rfl ?_); refine box_event ?hg (N := 9) ?hd (cs := #[.slice none 0 0, .string (⟨#[]⟩ : ByteArray)]) (t := 25) ?hr ?_; (case hd => rfl); (case hg => rfl); (case hr => first | (go_simp; done) | (go_simp; rfl)); intro gb175 hg w54 hbox hb; have n0_ := Aside0.mk (Kd.R_below (by (with_reducible repeat (first | apply Kd.R_alloc | apply Kd.R_drewN | apply Kd.R_drew)); exact HO_158000.out) hb); have n1_ := Aside0.mk (Kd.R_below (by (with_reducible repeat (first | apply Kd.R_alloc | apply Kd.R_drewN | apply Kd.R_drew)); exact HO_163000.out) hb); have n2_ := Aside0.mk (Kd.R_below (by (with_reducible repeat (first | apply Kd.R_alloc | apply Kd.R_drewN | apply Kd.R_drew)); exact HO171.out) hb); have n3_ := Aside0.mk (blk_below (g := gb152) (o := .cells #[.slice A0_0 l0_0.length c0_0, .string a0_1] 25 (0, 0)) (by (with_reducible repeat (first | refine blk_drewN ?_ _ | refine blk_drew ?_ | refine blk_alloc ?_ _)); exact BK152.out) hb); have n4_ := Aside0.mk (blk_below (g := gb157) (o := .cells #[.slice Ao11 t153.length co11, .string t156] 31 (0, 0)) (by (with_reducible repeat (first | refine blk_drewN ?_ _ | refine blk_drew ?_ | refine blk_alloc ?_ _)); exact BK157.out) hb); have n5_ := Aside0.mk (blk_below (g := gb162) (o := .cells #[.slice Ao16 t158.length co16, .string t161] 25 (0, 0)) (by (with_reducible repeat (first | refine blk_drewN ?_ _ | refine blk_drew ?_ | refine blk_alloc ?_ _)); exact BK162.out) hb); have n6_ := Aside0.mk (below_step (by repeat (first | (with_reducible first | exact HB.out | apply below_alloc | apply pw_below_drewN | apply below_drew1 | refine below_set ?_ GE152.out | refine below_set ?_ GE157.out | refine below_set ?_ GE162.out) | exact HB.out)) hb); have n7_ := Aside0.mk (hbox); have n8_ := Aside0.mk ((by rw [hg]; exact (below_size (by repeat (first | (with_reducible first | exact HB.out | apply below_alloc | apply pw_below_drewN | apply below_drew1 | refine below_set ?_ GE152.out | refine below_set ?_ GE157.out | refine below_set ?_ GE162.out) | exact HB.out))) : w.heap.size ≤ gb175)); have n9_ := Aside0.mk ((by rw [hg]; exact (below_size (by repeat (first | (with_reducible first | exact HB.out | apply below_alloc | apply pw_below_drewN | apply below_drew1 | refine below_set ?_ GE152.out | refine below_set ?_ GE157.out | refine below_set ?_ GE162.out) | exact HB.out))) : w.heap.size ≤ gb175)); have n10_ := Aside0.mk ((by rw [hg]; exact Nat.ne_of_lt (blk_lt (g := gb152) (o := .cells #[.slice A0_0 l0_0.length c0_0, .string a0_1] 25 (0, 0)) (by (with_reducible repeat (first | refine blk_drewN ?_ _ | refine blk_drew ?_ | refine blk_alloc ?_ _)); exact BK152.out)) : gb152 ≠ gb175)); have n11_ := Aside0.mk ((by rw [hg]; exact Nat.ne_of_gt (blk_lt (g := gb152) (o := .cells #[.slice A0_0 l0_0.length c0_0, .string a0_1] 25 (0, 0)) (by (with_reducible repeat (first | refine blk_drewN ?_ _ | refine blk_drew ?_ | refine blk_alloc ?_ _)); exact BK152.out)) : gb175 ≠ gb152)); have n12_ := Aside0.mk ((by rw [hg]; exact Nat.ne_of_lt (blk_lt (g := gb157) (o := .cells #[.slice Ao11 t153.length co11, .string t156] 31 (0, 0)) (by (with_reducible repeat (first | refine blk_drewN ?_ _ | refine blk_drew ?_ | refine blk_alloc ?_ _)); exact BK157.out)) : gb157 ≠ gb175)); have n13_ := Aside0.mk ((by rw [hg]; exact Nat.ne_of_gt (blk_lt (g := gb157) (o := .cells #[.slice Ao11 t153.length co11, .string t156] 31 (0, 0)) (by (with_reducible repeat (first | refine blk_drewN ?_ _ | refine blk_drew ?_ | refine blk_alloc ?_ _)); exact BK157.out)) : gb175 ≠ gb157)); have n14_ := Aside0.mk ((by rw [hg]; exact Nat.ne_of_lt (blk_lt (g := gb162) (o := .cells #[.slice Ao16 t158.length co16, .string t161] 25 (0, 0)) (by (with_reducible repeat (first | refine blk_drewN ?_ _ | refine blk_drew ?_ | refine blk_alloc ?_ _)); exact BK162.out)) : gb162 ≠ gb175)); have n15_ := Aside0.mk ((by rw [hg]; exact Nat.ne_of_gt (blk_lt (g := gb162) (o := .cells #[.slice Ao16 t158.length co16, .string t161] 25 (0, 0)) (by (with_reducible repeat (first | refine blk_drewN ?_ _ | refine blk_drew ?_ | refine blk_alloc ?_ _)); exact BK162.out)) : gb175 ≠ gb162)); clear HO_158000; clear HO_163000; clear HO171; clear BK152; clear BK157; clear BK162; clear HB; have HO_158000 := n0_; have HO_163000 := n1_; have HO171 := n2_; have BK152 := n3_; have BK157 := n4_; have BK162 := n5_; have HB := n6_; have BK175 := n7_; have GW175 := n8_; have GE175 := n9_; have NB152_175 := n10_; have NB175_152 := n11_; have NB157_175 := n12_; have NB175_157 := n13_; have NB162_175 := n14_; have NB175_162 := n15_; clear n0_ n1_ n2_ n3_ n4_ n5_ n6_ n7_ n8_ n9_ n10_ n11_ n12_ n13_ n14_ n15_; clear hb hbox hg; obtain ⟨Ao55, co55, eo55⟩ := Kd.R_slice HO171.out; subst eo55; have hnb56 := NB175_152.out; have hnc56 := NB152_175.out; have hnb57 := NB175_157.out; have hnc57 := NB157_175.out; have hnb58 := NB175_162.out; have hnc58 := NB162_175.out; have hcz59_0 : w54.cell? ⟨gb175, 0, none⟩ = some (.slice none 0 0) := (blk_cell BK175.out 0).trans rfl; have hcz59_1 : w54.cell? ⟨gb175, 1, none⟩ = some (.string (⟨#[]⟩ : ByteArray)) := (blk_cell BK175.out 1).trans rfl; have hfz59_0 := blk_frozen BK175.out 0; have hfz59_1 := blk_frozen BK175.out 1))
              go_ret
              exact ⟨by first | rfl | (simp [errW_none, errW_some] <;> rfl) | (simp [*, errW_none, errW_some] <;> rfl), by repeat (first | (with_reducible first | exact HB.out | apply below_alloc | apply pw_below_drewN | apply below_drew1 | refine below_set ?_ GE152.out | refine below_set ?_ GE157.out | refine below_set ?_ GE162.out | refine below_set ?_ GE175.out) | exact HB.out)⟩
          · rw [if_neg c39] at H
            have c39b0 : (t173 == 0) = false := beq_eq_false_iff_ne.mpr c39
            have c39b1 : (t173 != 0) = true := bne_iff_ne.mpr c39
            obtain rfl := Option.some.inj H
            go_wp2_with (first | ((with_reducible refine gate_callee (f := 12) rfl ?_); refine goesL_ (some 46) rfl rfl Tryz.func12 (by kernel_rfl) rfl #[.string t163] rfl (by (try simp only [List.map_toArray, List.map_cons, List.map_nil]); first | done | rfl | (simp only [List.length_drop, List.length_take]; rfl)) ?_; (with_reducible refine (GV.AParse.calls kj5 t163 t169 t172 t173 t174 _ ?side1 A37.out).mono ?_); (case side1 => exact gm_at HGM.out (by repeat (first | (with_reducible first | exact HB.out | apply below_alloc | apply pw_below_drewN | apply below_drew1 | refine below_set ?_ GE152.out | refine below_set ?_ GE157.out | refine below_set ?_ GE162.out) | exact HB.out))); rintro e w60 ⟨v170, rfl, ho0, hb⟩; refine ⟨_, rfl, ?_⟩; have n0_ := Aside0.mk (Kd.R_below (by (with_reducible repeat (first | apply Kd.R_alloc | apply Kd.R_drewN | apply Kd.R_drew)); exact HO_158000.out) hb); have n1_ := Aside0.mk (Kd.R_elder' (by (with_reducible repeat (first | apply Kd.R_alloc | apply Kd.R_drewN | apply Kd.R_drew)); exact HO_163000.out) (Kd.R_base ho0) hb); have n2_ := Aside0.mk (Kd.R_lower (Kd.R_new' ho0 (Kd.R_lt (by (with_reducible repeat (first | apply Kd.R_alloc | apply Kd.R_drewN | apply Kd.R_drew)); exact HO_163000.out))) (below_size (by repeat (first | (with_reducible first | exact HB.out | apply below_alloc | apply pw_below_drewN | apply below_drew1 | refine below_set ?_ GE152.out | refine below_set ?_ GE157.out | refine below_set ?_ GE162.out) | exact HB.out)))); have n3_ := Aside0.mk (blk_below (g := gb152) (o := .cells #[.slice A0_0 l0_0.length c0_0, .string a0_1] 25 (0, 0)) (by (with_reducible repeat (first | refine blk_drewN ?_ _ | refine blk_drew ?_ | refine blk_alloc ?_ _)); exact BK152.out) hb); have n4_ := Aside0.mk (blk_below (g := gb157) (o := .cells #[.slice Ao11 t153.length co11, .string t156] 31 (0, 0)) (by (with_reducible repeat (first | refine blk_drewN ?_ _ | refine blk_drew ?_ | refine blk_alloc ?_ _)); exact BK157.out) hb); have n5_ := Aside0.mk (blk_below (g := gb162) (o := .cells #[.slice Ao16 t158.length co16, .string t161] 25 (0, 0)) (by (with_reducible repeat (first | refine blk_drewN ?_ _ | refine blk_drew ?_ | refine blk_alloc ?_ _)); exact BK162.out) hb); have n6_ := Aside0.mk (below_step (by repeat (first | (with_reducible first | exact HB.out | apply below_alloc | apply pw_below_drewN | apply below_drew1 | refine below_set ?_ GE152.out | refine below_set ?_ GE157.out | refine below_set ?_ GE162.out) | exact HB.out)) hb); clear HO_158000; clear HO_163000; clear BK152; clear BK157; clear BK162; clear HB; have HO_158000 := n0_; have HO_163000 := n1_; have HO171 := n2_; have BK152 := n3_; have BK157 := n4_; have BK162 := n5_; have HB := n6_; clear n0_ n1_ n2_ n3_ n4_ n5_ n6_; (try clear hb); (try clear hb2); (try clear hk); (try clear hi); (try clear ho0)) | ((with_reducible refine gate_dst (N := 9) rfl ?_); refine box_event ?hg (N := 9) ?hd (cs := #[.slice none 0 0, .string (⟨#[]⟩ : ByteArray)]) (t := 25) ?hr ?_; (case hd => rfl); (case hg => rfl); (case hr => first | (go_simp; done) | (go_simp; rfl)); intro gb175 hg w61 hbox hb; have n0_ := Aside0.mk (Kd.R_below (by (with_reducible repeat (first | apply Kd.R_alloc | apply Kd.R_drewN | apply Kd.R_drew)); exact HO_158000.out) hb); have n1_ := Aside0.mk (Kd.R_below (by (with_reducible repeat (first | apply Kd.R_alloc | apply Kd.R_drewN | apply Kd.R_drew)); exact HO_163000.out) hb); have n2_ := Aside0.mk (Kd.R_below (by (with_reducible repeat (first | apply Kd.R_alloc | apply Kd.R_drewN | apply Kd.R_drew)); exact HO171.out) hb); have n3_ := Aside0.mk (blk_below (g := gb152) (o := .cells #[.slice A0_0 l0_0.length c0_0, .string a0_1] 25 (0, 0)) (by (with_reducible repeat (first | refine blk_drewN ?_ _ | refine blk_drew ?_ | refine blk_alloc ?_ _)); exact BK152.out) hb); have n4_ := Aside0.mk (blk_below (g := gb157) (o := .cells #[.slice Ao11 t153.length co11, .string t156] 31 (0, 0)) (by (with_reducible repeat (first | refine blk_drewN ?_ _ | refine blk_drew ?_ | refine blk_alloc ?_ _)); exact BK157.out) hb); have n5_ := Aside0.mk (blk_below (g := gb162) (o := .cells #[.slice Ao16 t158.length co16, .string t161] 25 (0, 0)) (by (with_reducible repeat (first | refine blk_drewN ?_ _ | refine blk_drew ?_ | refine blk_alloc ?_ _)); exact BK162.out) hb); have n6_ := Aside0.mk (below_step (by repeat (first | (with_reducible first | exact HB.out | apply below_alloc | apply pw_below_drewN | apply below_drew1 | refine below_set ?_ GE152.out | refine below_set ?_ GE157.out | refine below_set ?_ GE162.out) | exact HB.out)) hb); have n7_ := Aside0.mk (hbox); have n8_ := Aside0.mk ((by rw [hg]; exact (below_size (by repeat (first | (with_reducible first | exact HB.out | apply below_alloc | apply pw_below_drewN | apply below_drew1 | refine below_set ?_ GE152.out | refine below_set ?_ GE157.out | refine below_set ?_ GE162.out) | exact HB.out))) : w.heap.size ≤ gb175)); have n9_ := Aside0.mk ((by rw [hg]; exact (below_size (by repeat (first | (with_reducible first | exact HB.out | apply below_alloc | apply pw_below_drewN | apply below_drew1 | refine below_set ?_ GE152.out | refine below_set ?_ GE157.out | refine below_set ?_ GE162.out) | exact HB.out))) : w.heap.size ≤ gb175)); have n10_ := Aside0.mk ((by rw [hg]; exact Nat.ne_of_lt (blk_lt (g := gb152) (o := .cells #[.slice A0_0 l0_0.length c0_0, .string a0_1] 25 (0, 0)) (by (with_reducible repeat (first | refine blk_drewN ?_ _ | refine blk_drew ?_ | refine blk_alloc ?_ _)); exact BK152.out)) : gb152 ≠ gb175)); have n11_ := Aside0.mk ((by rw [hg]; exact Nat.ne_of_gt (blk_lt (g := gb152) (o := .cells #[.slice A0_0 l0_0.length c0_0, .string a0_1] 25 (0, 0)) (by (with_reducible repeat (first | refine blk_drewN ?_ _ | refine blk_drew ?_ | refine blk_alloc ?_ _)); exact BK152.out)) : gb175 ≠ gb152)); have n12_ := Aside0.mk ((by rw [hg]; exact Nat.ne_of_lt (blk_lt (g := gb157) (o := .cells #[.slice Ao11 t153.length co11, .string t156] 31 (0, 0)) (by (with_reducible repeat (first | refine blk_drewN ?_ _ | refine blk_drew ?_ | refine blk_alloc ?_ _)); exact BK157.out)) : gb157 ≠ gb175)); have n13_ := Aside0.mk ((by rw [hg]; exact Nat.ne_of_gt (blk_lt (g := gb157) (o := .cells #[.slice Ao11 t153.length co11, .string t156] 31 (0, 0)) (by (with_reducible repeat (first | refine blk_drewN ?_ _ | refine blk_drew ?_ | refine blk_alloc ?_ _)); exact BK157.out)) : gb175 ≠ gb157)); have n14_ := Aside0.mk ((by rw [hg]; exact Nat.ne_of_lt (blk_lt (g := gb162) (o := .cells #[.slice Ao16 t158.length co16, .string t161] 25 (0, 0)) (by (with_reducible repeat (first | refine blk_drewN ?_ _ | refine blk_drew ?_ | refine blk_alloc ?_ _)); exact BK162.out)) : gb162 ≠ gb175)); have n15_ := Aside0.mk ((by rw [hg]; exact Nat.ne_of_gt (blk_lt (g := gb162) (o := .cells #[.slice Ao16 t158.length co16, .string t161] 25 (0, 0)) (by (with_reducible repeat (first | refine blk_drewN ?_ _ | refine blk_drew ?_ | refine blk_alloc ?_ _)); exact BK162.out)) : gb175 ≠ gb162)); clear HO_158000; clear HO_163000; clear HO171; clear BK152; clear BK157; clear BK162; clear HB; have HO_158000 := n0_; have HO_163000 := n1_; have HO171 := n2_; have BK152 := n3_; have BK157 := n4_; have BK162 := n5_; have HB := n6_; have BK175 := n7_; have GW175 := n8_; have GE175 := n9_; have NB152_175 := n10_; have NB175_152 := n11_; have NB157_175 := n12_; have NB175_157 := n13_; have NB162_175 := n14_; have NB175_162 := n15_; clear n0_ n1_ n2_ n3_ n4_ n5_ n6_ n7_ n8_ n9_ n10_ n11_ n12_ n13_ n14_ n15_; clear hb hbox hg; obtain ⟨Ao62, co62, eo62⟩ := Kd.R_slice HO171.out; subst eo62; have hnb63 := NB175_152.out; have hnc63 := NB152_175.out; have hnb64 := NB175_157.out; have hnc64 := NB157_175.out; have hnb65 := NB175_162.out; have hnc65 := NB162_175.out; have hcz66_0 : w61.cell? ⟨gb175, 0, none⟩ = some (.slice none 0 0) := (blk_cell BK175.out 0).trans rfl; have hcz66_1 : w61.cell? ⟨gb175, 1, none⟩ = some (.string (⟨#[]⟩ : ByteArray)) := (blk_cell BK175.out 1).trans rfl; have hfz66_0 := blk_frozen BK175.out 0; have hfz66_1 := blk_frozen BK175.out 1))
            go_ret
            exact ⟨by first | rfl | (simp [errW_none, errW_some] <;> rfl) | (simp [*, errW_none, errW_some] <;> rfl), by repeat (first | (with_reducible first | exact HB.out | apply below_alloc | apply pw_below_drewN | apply below_drew1 | refine below_set ?_ GE152.out | refine below_set ?_ GE157.out | refine below_set ?_ GE162.out | refine below_set ?_ GE175.out) | exact HB.out)⟩
        · rw [if_neg c38] at H
          have c38b0 : (t164 == 0) = false := beq_eq_false_iff_ne.mpr c38
          have c38b1 : (t164 != 0) = true := bne_iff_ne.mpr c38
          obtain rfl := Option.some.inj H
          go_wp2_with (first | ((with_reducible refine gate_callee (f := 12) rfl ?_); refine goesL_ (some 46) rfl rfl Tryz.func12 (by kernel_rfl) rfl #[.string t163] rfl (by (try simp only [List.map_toArray, List.map_cons, List.map_nil]); first | done | rfl | (simp only [List.length_drop, List.length_take]; rfl)) ?_; (with_reducible refine (GV.AParse.calls kj5 t163 t169 t172 t173 t174 _ ?side1 A37.out).mono ?_); (case side1 => exact gm_at HGM.out (by repeat (first | (with_reducible first | exact HB.out | apply below_alloc | apply pw_below_drewN | apply below_drew1 | refine below_set ?_ GE152.out | refine below_set ?_ GE157.out | refine below_set ?_ GE162.out) | exact HB.out))); rintro e w67 ⟨v170, rfl, ho0, hb⟩; refine ⟨_, rfl, ?_⟩; have n0_ := Aside0.mk (Kd.R_below (by (with_reducible repeat (first | apply Kd.R_alloc | apply Kd.R_drewN | apply Kd.R_drew)); exact HO_158000.out) hb); have n1_ := Aside0.mk (Kd.R_elder' (by (with_reducible repeat (first | apply Kd.R_alloc | apply Kd.R_drewN | apply Kd.R_drew)); exact HO_163000.out) (Kd.R_base ho0) hb); have n2_ := Aside0.mk (Kd.R_lower (Kd.R_new' ho0 (Kd.R_lt (by (with_reducible repeat (first | apply Kd.R_alloc | apply Kd.R_drewN | apply Kd.R_drew)); exact HO_163000.out))) (below_size (by repeat (first | (with_reducible first | exact HB.out | apply below_alloc | apply pw_below_drewN | apply below_drew1 | refine below_set ?_ GE152.out | refine below_set ?_ GE157.out | refine below_set ?_ GE162.out) | exact HB.out)))); have n3_ := Aside0.mk (blk_below (g := gb152) (o := .cells #[.slice A0_0 l0_0.length c0_0, .string a0_1] 25 (0, 0)) (by (with_reducible repeat (first | refine blk_drewN ?_ _ | refine blk_drew ?_ | refine blk_alloc ?_ _)); exact BK152.out) hb); have n4_ := Aside0.mk (blk_below (g := gb157) (o := .cells #[.slice Ao11 t153.length co11, .string t156] 31 (0, 0)) (by (with_reducible repeat (first | refine blk_drewN ?_ _ | refine blk_drew ?_ | refine blk_alloc ?_ _)); exact BK157.out) hb); have n5_ := Aside0.mk (blk_below (g := gb162) (o := .cells #[.slice Ao16 t158.length co16, .string t161] 25 (0, 0)) (by (with_reducible repeat (first | refine blk_drewN ?_ _ | refine blk_drew ?_ | refine blk_alloc ?_ _)); exact BK162.out) hb); have n6_ := Aside0.mk (below_step (by repeat (first | (with_reducible first | exact HB.out | apply below_alloc | apply pw_below_drewN | apply below_drew1 | refine below_set ?_ GE152.out | refine below_set ?_ GE157.out | refine below_set ?_ GE162.out) | exact HB.out)) hb); clear HO_158000; clear HO_163000; clear BK152; clear BK157; clear BK162; clear HB; have HO_158000 := n0_; have HO_163000 := n1_; have HO171 := n2_; have BK152 := n3_; have BK157 := n4_; have BK162 := n5_; have HB := n6_; clear n0_ n1_ n2_ n3_ n4_ n5_ n6_; (try clear hb); (try clear hb2); (try clear hk); (try clear hi); (try clear ho0)) | ((with_reducible refine gate_dst (N := 9) rfl ?_); refine box_event ?hg (N := 9) ?hd (cs := #[.slice none 0 0, .string (⟨#[]⟩ : ByteArray)]) (t := 25) ?hr ?_; (case hd => rfl); (case hg => rfl); (case hr => first | (go_simp; done) | (go_simp; rfl)); intro gb175 hg w68 hbox hb; have n0_ := Aside0.mk (Kd.R_below (by (with_reducible repeat (first | apply Kd.R_alloc | apply Kd.R_drewN | apply Kd.R_drew)); exact HO_158000.out) hb); have n1_ := Aside0.mk (Kd.R_below (by (with_reducible repeat (first | apply Kd.R_alloc | apply Kd.R_drewN | apply Kd.R_drew)); exact HO_163000.out) hb); have n2_ := Aside0.mk (Kd.R_below (by (with_reducible repeat (first | apply Kd.R_alloc | apply Kd.R_drewN | apply Kd.R_drew)); exact HO171.out) hb); have n3_ := Aside0.mk (blk_below (g := gb152) (o := .cells #[.slice A0_0 l0_0.length c0_0, .string a0_1] 25 (0, 0)) (by (with_reducible repeat (first | refine blk_drewN ?_ _ | refine blk_drew ?_ | refine blk_alloc ?_ _)); exact BK152.out) hb); have n4_ := Aside0.mk (blk_below (g := gb157) (o := .cells #[.slice Ao11 t153.length co11, .string t156] 31 (0, 0)) (by (with_reducible repeat (first | refine blk_drewN ?_ _ | refine blk_drew ?_ | refine blk_alloc ?_ _)); exact BK157.out) hb); have n5_ := Aside0.mk (blk_below (g := gb162) (o := .cells #[.slice Ao16 t158.length co16, .string t161] 25 (0, 0)) (by (with_reducible repeat (first | refine blk_drewN ?_ _ | refine blk_drew ?_ | refine blk_alloc ?_ _)); exact BK162.out) hb); have n6_ := Aside0.mk (below_step (by repeat (first | (with_reducible first | exact HB.out | apply below_alloc | apply pw_below_drewN | apply below_drew1 | refine below_set ?_ GE152.out | refine below_set ?_ GE157.out | refine below_set ?_ GE162.out) | exact HB.out)) hb); have n7_ := Aside0.mk (hbox); have n8_ := Aside0.mk ((by rw [hg]; exact (below_size (by repeat (first | (with_reducible first | exact HB.out | apply below_alloc | apply pw_below_drewN | apply below_drew1 | refine below_set ?_ GE152.out | refine below_set ?_ GE157.out | refine below_set ?_ GE162.out) | exact HB.out))) : w.heap.size ≤ gb175)); have n9_ := Aside0.mk ((by rw [hg]; exact (below_size (by repeat (first | (with_reducible first | exact HB.out | apply below_alloc | apply pw_below_drewN | apply below_drew1 | refine below_set ?_ GE152.out | refine below_set ?_ GE157.out | refine below_set ?_ GE162.out) | exact HB.out))) : w.heap.size ≤ gb175)); have n10_ := Aside0.mk ((by rw [hg]; exact Nat.ne_of_lt (blk_lt (g := gb152) (o := .cells #[.slice A0_0 l0_0.length c0_0, .string a0_1] 25 (0, 0)) (by (with_reducible repeat (first | refine blk_drewN ?_ _ | refine blk_drew ?_ | refine blk_alloc ?_ _)); exact BK152.out)) : gb152 ≠ gb175)); have n11_ := Aside0.mk ((by rw [hg]; exact Nat.ne_of_gt (blk_lt (g := gb152) (o := .cells #[.slice A0_0 l0_0.length c0_0, .string a0_1] 25 (0, 0)) (by (with_reducible repeat (first | refine blk_drewN ?_ _ | refine blk_drew ?_ | refine blk_alloc ?_ _)); exact BK152.out)) : gb175 ≠ gb152)); have n12_ := Aside0.mk ((by rw [hg]; exact Nat.ne_of_lt (blk_lt (g := gb157) (o := .cells #[.slice Ao11 t153.length co11, .string t156] 31 (0, 0)) (by (with_reducible repeat (first | refine blk_drewN ?_ _ | refine blk_drew ?_ | refine blk_alloc ?_ _)); exact BK157.out)) : gb157 ≠ gb175)); have n13_ := Aside0.mk ((by rw [hg]; exact Nat.ne_of_gt (blk_lt (g := gb157) (o := .cells #[.slice Ao11 t153.length co11, .string t156] 31 (0, 0)) (by (with_reducible repeat (first | refine blk_drewN ?_ _ | refine blk_drew ?_ | refine blk_alloc ?_ _)); exact BK157.out)) : gb175 ≠ gb157)); have n14_ := Aside0.mk ((by rw [hg]; exact Nat.ne_of_lt (blk_lt (g := gb162) (o := .cells #[.slice Ao16 t158.length co16, .string t161] 25 (0, 0)) (by (with_reducible repeat (first | refine blk_drewN ?_ _ | refine blk_drew ?_ | refine blk_alloc ?_ _)); exact BK162.out)) : gb162 ≠ gb175)); have n15_ := Aside0.mk ((by rw [hg]; exact Nat.ne_of_gt (blk_lt (g := gb162) (o := .cells #[.slice Ao16 t158.length co16, .string t161] 25 (0, 0)) (by (with_reducible repeat (first | refine blk_drewN ?_ _ | refine blk_drew ?_ | refine blk_alloc ?_ _)); exact BK162.out)) : gb175 ≠ gb162)); clear HO_158000; clear HO_163000; clear HO171; clear BK152; clear BK157; clear BK162; clear HB; have HO_158000 := n0_; have HO_163000 := n1_; have HO171 := n2_; have BK152 := n3_; have BK157 := n4_; have BK162 := n5_; have HB := n6_; have BK175 := n7_; have GW175 := n8_; have GE175 := n9_; have NB152_175 := n10_; have NB175_152 := n11_; have NB157_175 := n12_; have NB175_157 := n13_; have NB162_175 := n14_; have NB175_162 := n15_; clear n0_ n1_ n2_ n3_ n4_ n5_ n6_ n7_ n8_ n9_ n10_ n11_ n12_ n13_ n14_ n15_; clear hb hbox hg; obtain ⟨Ao69, co69, eo69⟩ := Kd.R_slice HO171.out; subst eo69; have hnb70 := NB175_152.out; have hnc70 := NB152_175.out; have hnb71 := NB175_157.out; have hnc71 := NB157_175.out; have hnb72 := NB175_162.out; have hnc72 := NB162_175.out; have hcz73_0 : w68.cell? ⟨gb175, 0, none⟩ = some (.slice none 0 0) := (blk_cell BK175.out 0).trans rfl; have hcz73_1 : w68.cell? ⟨gb175, 1, none⟩ = some (.string (⟨#[]⟩ : ByteArray)) := (blk_cell BK175.out 1).trans rfl; have hfz73_0 := blk_frozen BK175.out 0; have hfz73_1 := blk_frozen BK175.out 1))
          go_ret
          exact ⟨by first | rfl | (simp [errW_none, errW_some] <;> rfl) | (simp [*, errW_none, errW_some] <;> rfl), by repeat (first | (with_reducible first | exact HB.out | apply below_alloc | apply pw_below_drewN | apply below_drew1 | refine below_set ?_ GE152.out | refine below_set ?_ GE157.out | refine below_set ?_ GE162.out | refine below_set ?_ GE175.out) | exact HB.out)⟩

end Go.Proofs.YtfeciafdioepiaaGreatDoor.PL
set_option linter.unusedVariables false
set_option linter.unusedSimpArgs false
/- The reference's ValidName as a function on lists. -/
namespace Go.Proofs.YtfeciafdioepiaaGreatDoor
open Go.RowKit Go.Proofs Go.Proofs.YtfeciafdioepiaaGreatDoorW.PrintWords Go.Proofs.YtfeciafdioepiaaGreatDoor.PA

def lowQ (c : UInt8) : Bool := decide (97 ≤ c) && decide (c ≤ 122)
def uppU (c : UInt8) : Bool := decide (65 ≤ c) && decide (c ≤ 90)
theorem rLowF (c : UInt8) : bulletinref01_Lowercase.f (c.toNat : Int) = some (lowQ c) := by
  refine all_u8 (P := fun c => bulletinref01_Lowercase.f (c.toNat : Int) = some (lowQ c)) ?_ c
  decide +kernel
theorem rUppF (c : UInt8) : bulletinref01_Uppercase.f (c.toNat : Int) = some (uppU c) := by
  refine all_u8 (P := fun c => bulletinref01_Uppercase.f (c.toNat : Int) = some (uppU c)) ?_ c
  decide +kernel
theorem rDigF (c : UInt8) : bulletinref01_Digit.f (c.toNat : Int) = some (isDigitU c) := by
  refine all_u8 (P := fun c => bulletinref01_Digit.f (c.toNat : Int) = some (isDigitU c)) ?_ c
  decide +kernel
theorem letter_or (c : UInt8) : isLetterU c = (lowQ c || uppU c) := by
  refine all_u8 (P := fun c => isLetterU c = (lowQ c || uppU c)) ?_ c
  decide +kernel

theorem refValidLoop (l : List UInt8) (hl : l.length ≤ 1100000) : ∀ d k i : Nat, l.length - i = d → d < k → i ≤ l.length → 0 < i →
    bulletinref09_ValidName.l0 k (mkS l) (i : Int) = some ((l.drop i).all nameByte) := by
  have hs := mkS_size l
  intro d
  induction d with
  | zero =>
    intro k i hd hk hi _
    obtain ⟨k, rfl⟩ : ∃ m, k = m + 1 := ⟨k - 1, by omega⟩
    simp only [bulletinref09_ValidName.l0]
    rw [if_neg (by omega), List.drop_eq_nil_of_le (by omega)]; rfl
  | succ d ih =>
    intro k i hd hk hi h0
    obtain ⟨k, rfl⟩ : ∃ m, k = m + 1 := ⟨k - 1, by omega⟩
    simp only [bulletinref09_ValidName.l0]
    have hlt : i < l.length := by omega
    have hw : wrap64 ((i : Int) + 1) = ((i + 1 : Nat) : Int) := by unfold wrap64; omega
    rw [if_pos (by omega), if_pos (by omega), bt_mk l i hlt, rLowF, List.drop_eq_getElem_cons hlt, List.all_cons, hw]
    simp only [Option.bind_some]
    have hih := ih k (i + 1) (by omega) (by omega) (by omega) (by omega)
    rw [hih]
    by_cases h1 : lowQ l[i] = true
    · rw [if_pos h1]; simp [nameByte, letter_or, h1]
    · rw [if_neg h1, rUppF]
      simp only [Option.bind_some]
      by_cases h2 : uppU l[i] = true
      · rw [if_pos h2]; simp [nameByte, letter_or, h2]
      · rw [if_neg h2, if_neg (by omega), rDigF]
        simp only [Option.bind_some]
        by_cases h3 : isDigitU l[i] = true
        · rw [if_pos h3]; simp [nameByte, h3]
        · rw [if_neg h3]
          by_cases h4 : l[i] = 45
          · rw [if_pos ((byte45 _).2 h4)]; simp [nameByte, h4]
          · rw [if_neg (fun h => h4 ((byte45 _).1 h))]; simp [nameByte, letter_or, h1, h2, h3, h4]
theorem refValidF (l : List UInt8) (hl : l.length ≤ 1100000) (k : Nat) (hk : l.length + 2 ≤ k) : bulletinref09_ValidName.f k (mkS l) = some (validNameL l) := by
  have hs := mkS_size l
  obtain ⟨k, rfl⟩ : ∃ m, k = m + 1 := ⟨k - 1, by omega⟩
  unfold bulletinref09_ValidName.f
  cases l with
  | nil =>
    rw [if_pos (by rw [hs]; simp)]
    simp only [bulletinref09_ValidName.j0]
    rfl
  | cons c t =>
    have hlc : (c :: t).length = t.length + 1 := rfl
    rw [if_neg (by omega)]
    simp only [bulletinref09_ValidName.j0]
    by_cases h40 : (c :: t).length ≤ 40
    · rw [if_neg (by simp; omega)]
      obtain ⟨k, rfl⟩ : ∃ m, k = m + 1 := ⟨k - 1, by omega⟩
      simp only [bulletinref09_ValidName.l0]
      have hb := bt_mk (c :: t) 0 (by omega)
      rw [if_pos (by omega), if_pos (by omega), show (0 : Int) = ((0 : Nat) : Int) from rfl, hb, rLowF]
      have hw : wrap64 (((0 : Nat) : Int) + 1) = ((1 : Nat) : Int) := by unfold wrap64; omega
      rw [hw, refValidLoop (c :: t) hl _ k 1 rfl (by omega) (by omega) (by omega)]
      simp only [Option.bind_some, List.getElem_cons_zero, List.drop_one, List.tail_cons]
      by_cases h1 : lowQ c = true
      · rw [if_pos h1]; simp [validNameL, nameByte, letter_or, h1]; omega
      · rw [if_neg h1, rUppF]
        simp only [Option.bind_some]
        by_cases h2 : uppU c = true
        · rw [if_pos h2]; simp [validNameL, nameByte, letter_or, h2]; omega
        · rw [if_neg h2, if_pos trivial]; simp [validNameL, letter_or, h1, h2]
    · rw [if_pos (by simp; omega)]
      have : decide ((c :: t).length ≤ 40) = false := decide_eq_false h40
      unfold validNameL; rw [this]; rfl
theorem validLoopM (l : List UInt8) (hl : l.length ≤ 1100000) : ∀ d k i : Nat, l.length - i = d → d < k → i ≤ l.length →
    field_ValidName.l0 k (mkS l) (l.length : Int) (i : Int) = some ((l.drop i).all nameByte) := by
  have hs := mkS_size l
  intro d
  induction d with
  | zero =>
    intro k i hd hk hi
    obtain ⟨k, rfl⟩ : ∃ m, k = m + 1 := ⟨k - 1, by omega⟩
    simp only [field_ValidName.l0]
    rw [if_neg (by omega), List.drop_eq_nil_of_le (by omega)]; rfl
  | succ d ih =>
    intro k i hd hk hi
    obtain ⟨k, rfl⟩ : ∃ m, k = m + 1 := ⟨k - 1, by omega⟩
    simp only [field_ValidName.l0]
    have hlt : i < l.length := by omega
    have hw : wrap64 ((i : Int) + 1) = ((i + 1 : Nat) : Int) := by unfold wrap64; omega
    rw [if_pos (by omega), if_pos (by omega), if_pos (by omega), bt_mk l i hlt, letterF, List.drop_eq_getElem_cons hlt, List.all_cons]
    simp only [Option.bind_some]
    have hih := ih k (i + 1) (by omega) (by omega) (by omega)
    by_cases h1 : isLetterU l[i] = true
    · rw [if_pos h1, hw, hih]; simp [nameByte, h1]
    · rw [if_neg h1, digitF]
      simp only [Option.bind_some]
      by_cases h2 : isDigitU l[i] = true
      · rw [if_pos h2, hw, hih]; simp [nameByte, h2]
      · rw [if_neg h2]
        by_cases h3 : l[i] = 45
        · rw [if_pos ((byte45 _).2 h3), hw, hih]; simp [nameByte, h3]
        · rw [if_neg (fun h => h3 ((byte45 _).1 h))]; simp [nameByte, h1, h2, h3]
theorem validNameM (l : List UInt8) (hl : l.length ≤ 1100000) : field_ValidName.f (l.length + 2) (mkS l) = some (validNameL l) := by
  have hs := mkS_size l
  unfold field_ValidName.f
  rw [toList_mk]
  have hj : ∀ b, field_ValidName.j0 (l.length + 2) (mkS l) b = if b = true then some false else some (l.all nameByte) := by
    intro b
    simp only [field_ValidName.j0]
    split
    · rfl
    · rw [hs]; exact validLoopM l hl l.length _ 0 (by omega) (by omega) (by omega)
  by_cases h0 : l = []
  · subst h0; rw [if_pos rfl, hj]; rfl
  · rw [if_neg h0]; simp only [hj]
    have hpos := List.length_pos_iff.2 h0
    unfold validNameL
    by_cases h1 : 40 < l.length
    · rw [if_pos (by omega), decide_eq_false (by omega)]; rfl
    · rw [if_neg (by omega), if_pos (by omega), decide_eq_true (by omega)]
      have := bt_mk l 0 hpos
      rw [show ((0 : Nat) : Int) = 0 from rfl] at this
      rw [this, letterF]
      simp only [Option.bind_some]
      cases l with
      | nil => exact absurd rfl h0
      | cons c r =>
        simp only [List.getElem_cons_zero]
        rcases Bool.eq_false_or_eq_true (isLetterU c) with hc | hc <;> simp [hc]
theorem field_ValidName_le (l : List UInt8) (hl : l.length ≤ 1100000) (k : Nat) (hk : l.length + 2 ≤ k) : field_ValidName.f k (mkS l) = some (validNameL l) := by
  obtain ⟨m, rfl⟩ : ∃ m, k = l.length + 2 + m := ⟨k - (l.length + 2), by omega⟩
  have h := validNameM l hl
  clear hk
  induction m with
  | zero => exact h
  | succ m ih => exact field_ValidName.mono _ _ _ ih

theorem mn_nat (a b : Nat) : mn (a : Int) (b : Int) = ((min a b : Nat) : Int) := by unfold mn; split <;> omega
end Go.Proofs.YtfeciafdioepiaaGreatDoor

/- Plain: what the printed functions of the reference compute, for all large numbers of rounds: Words, Printable, Squeeze, Check, Fold. -/
namespace Go.Proofs.YtfeciafdioepiaaGreatDoor
open Go.RowKit Go.Proofs Go.Proofs.YtfeciafdioepiaaGreatDoorW.PrintWords Go.Proofs.YtfeciafdioepiaaGreatDoor.PA

/-- From some number of rounds on. -/
def Ev {α : Type} (f : Nat → Option α) (r : α) : Prop := ∃ K, ∀ k, K ≤ k → f k = some r
section
variable {α β : Type}
theorem Ev.const {o : Option α} {r : α} (h : o = some r) : Ev (fun _ => o) r := ⟨0, fun _ _ => h⟩
theorem Ev.bind {f : Nat → Option α} {g : Nat → α → Option β} {a : α} {r : β} (h : Ev f a) (k : Ev (fun n => g n a) r) : Ev (fun n => (f n).bind (g n)) r := by
  obtain ⟨K, h⟩ := h
  obtain ⟨K', k⟩ := k
  refine ⟨max K K', fun n hn => ?_⟩
  show (f n).bind (g n) = some r
  rw [h n (by omega), Option.bind_some]
  exact k n (by omega)
theorem Ev.ite_pos {c : Prop} [Decidable c] {f g : Nat → Option α} {r : α} (h : c) (k : Ev f r) : Ev (fun n => if c then f n else g n) r := by
  simpa [h] using k
theorem Ev.ite_neg {c : Prop} [Decidable c] {f g : Nat → Option α} {r : α} (h : ¬ c) (k : Ev g r) : Ev (fun n => if c then f n else g n) r := by
  simpa [h] using k
theorem Ev.next {f : Nat → Option α} {r : α} (h : Ev (fun n => f (n + 1)) r) : Ev f r := by
  obtain ⟨K, h⟩ := h
  refine ⟨K + 1, fun n hn => ?_⟩
  obtain ⟨m, rfl⟩ : ∃ m, n = m + 1 := ⟨n - 1, by omega⟩
  exact h m (by omega)
theorem Ev.is {f : Nat → Option α} {r r' : α} (h : Ev f r) (e : r = r') : Ev f r' := e ▸ h
theorem Ev.same {f g : Nat → Option α} {r : α} (h : Ev g r) (e : ∀ n, f n = g n) : Ev f r := by
  obtain ⟨K, h⟩ := h
  exact ⟨K, fun n hn => (e n).trans (h n hn)⟩
theorem Ev.rpos {c : Prop} [Decidable c] {f : Nat → Option α} {a b : α} (h : c) (k : Ev f a) : Ev f (if c then a else b) := by rw [if_pos h]; exact k
theorem Ev.rneg {c : Prop} [Decidable c] {f : Nat → Option α} {a b : α} (h : ¬ c) (k : Ev f b) : Ev f (if c then a else b) := by rw [if_neg h]; exact k
theorem Ev.at_ {f : Nat → Option α} {r : α} (h : Ev f r) : ∃ k, f k = some r := by
  obtain ⟨K, h⟩ := h
  exact ⟨K, h K (Nat.le_refl _)⟩
end

theorem rBlankF (c : UInt8) : bulletinref01_Blank.f (c.toNat : Int) = some (isBlank c) := by
  refine all_u8 (P := fun c => bulletinref01_Blank.f (c.toNat : Int) = some (isBlank c)) ?_ c
  decide +kernel
def visU (c : UInt8) : Bool := decide (33 ≤ c) && decide (c ≤ 126)
theorem rVisF (c : UInt8) : bulletinref01_Visible.f (c.toNat : Int) = some (visU c) := by
  refine all_u8 (P := fun c => bulletinref01_Visible.f (c.toNat : Int) = some (visU c)) ?_ c
  decide +kernel
theorem byte32 (c : UInt8) : ((c.toNat : Int) = 32) ↔ c = 32 := toNat_int c 32 (by omega)
theorem wrap_nat (i : Nat) (h : i < 100000000000000) : wrap64 ((i : Int) + 1) = ((i + 1 : Nat) : Int) := by unfold wrap64; omega

theorem wrap_add (a b : Nat) (h : a + b < 100000000000000) : wrap64 ((a : Int) + (b : Int)) = ((a + b : Nat) : Int) := by unfold wrap64; omega
theorem rd25 (l : List S78) (i : Nat) (h : i < l.length) : rd_T78 l (i : Int) = l[i] := by
  unfold rd_T78; rw [Int.toNat_natCast, List.getD_eq_getElem?_getD, List.getElem?_eq_getElem h]; rfl
/-! ### Words -/
theorem refWords_loop (l : List UInt8) (hl : l.length ≤ 1100000) : ∀ d i : Nat, l.length - i = d → i ≤ l.length → ∀ xs : List ByteArray, xs.length ≤ i →
    Ev (fun k => bulletinref01_Words.l0 k (mkS l) xs (-1) (i : Int)) (xs ++ (wordsGo (l.drop i) []).map mkS) ∧
    ∀ j, j < i → Ev (fun k => bulletinref01_Words.l0 k (mkS l) xs (j : Int) (i : Int)) (xs ++ (wordsGo (l.drop i) ((l.drop j).take (i - j))).map mkS) := by
  have hs := mkS_size l
  intro d
  induction d with
  | zero =>
    intro i hd hi xs hx
    have hie : i = l.length := by omega
    refine ⟨?_, fun j hj => ?_⟩
    · refine Ev.next ?_
      simp only [bulletinref01_Words.l0]
      refine Ev.ite_pos (by omega) (Ev.ite_neg (by omega) ?_)
      refine Ev.next ?_
      simp only [bulletinref01_Words.j1]
      refine Ev.ite_neg (by simp) (Ev.ite_neg (by omega) ?_)
      rw [wrap_nat i (by omega)]
      refine Ev.next ?_
      simp only [bulletinref01_Words.l0]
      refine Ev.ite_neg (by omega) (Ev.const ?_)
      rw [List.drop_eq_nil_of_le (by omega)]; simp [wordsGo]
    · refine Ev.next ?_
      simp only [bulletinref01_Words.l0]
      refine Ev.ite_pos (by omega) (Ev.ite_neg (by omega) ?_)
      refine Ev.next ?_
      simp only [bulletinref01_Words.j1]
      refine Ev.ite_neg (by simp) (Ev.ite_pos (by omega) (Ev.ite_pos (by omega) (Ev.ite_pos (by omega) (Ev.ite_pos (by omega) (Ev.ite_pos (by omega) ?_)))))
      rw [wrap_nat i (by omega), Int.toNat_natCast, Int.toNat_natCast, extract_mk, mkS_toList]
      refine Ev.next ?_
      simp only [bulletinref01_Words.l0]
      refine Ev.ite_neg (by omega) (Ev.const ?_)
      rw [List.drop_eq_nil_of_le (by omega : l.length ≤ i)]
      have : (l.drop j).take (i - j) ≠ [] := by
        intro h
        have := congrArg List.length h
        simp at this; omega
      simp [wordsGo, this]
  | succ d ih =>
    intro i hd hi xs hx
    have hlt : i < l.length := by omega
    have hdr : l.drop i = l[i] :: l.drop (i + 1) := List.drop_eq_getElem_cons hlt
    have hw := wrap_nat i (by omega)
    refine ⟨?_, fun j hj => ?_⟩
    · refine Ev.next ?_
      simp only [bulletinref01_Words.l0]
      refine Ev.ite_pos (by omega) (Ev.ite_pos (by omega) (Ev.ite_pos (by omega) ?_))
      rw [bt_mk l i hlt, rBlankF]
      simp only [Option.bind_some]
      refine Ev.next ?_
      simp only [bulletinref01_Words.j1, hw]
      rw [hdr]
      by_cases hb : isBlank l[i] = true
      · refine Ev.ite_neg (by simp [hb]) (Ev.ite_neg (by omega) ?_)
        refine (ih (i + 1) (by omega) (by omega) xs (by omega)).1.is ?_
        conv => rhs; unfold wordsGo
        rw [if_pos hb, if_pos rfl]
      · refine Ev.ite_pos (by simp [hb]) (Ev.ite_pos (by omega) ?_)
        refine ((ih (i + 1) (by omega) (by omega) xs (by omega)).2 i (by omega)).is ?_
        conv => rhs; unfold wordsGo
        rw [if_neg hb, hdr, show i + 1 - i = 1 by omega]; rfl
    · refine Ev.next ?_
      simp only [bulletinref01_Words.l0]
      refine Ev.ite_pos (by omega) (Ev.ite_pos (by omega) (Ev.ite_pos (by omega) ?_))
      rw [bt_mk l i hlt, rBlankF]
      simp only [Option.bind_some]
      refine Ev.next ?_
      simp only [bulletinref01_Words.j1, hw]
      rw [hdr]
      have hne : (l.drop j).take (i - j) ≠ [] := by
        intro h
        have := congrArg List.length h
        simp at this; omega
      by_cases hb : isBlank l[i] = true
      · refine Ev.ite_neg (by simp [hb]) (Ev.ite_pos (by omega) (Ev.ite_pos (by omega) (Ev.ite_pos (by omega) (Ev.ite_pos (by omega) (Ev.ite_pos (by omega) ?_)))))
        rw [Int.toNat_natCast, Int.toNat_natCast, extract_mk, mkS_toList]
        refine (ih (i + 1) (by omega) (by omega) (xs ++ [mkS ((l.drop j).take (i - j))]) (by simp; omega)).1.is ?_
        conv => rhs; unfold wordsGo
        rw [if_pos hb, if_neg hne]; simp
      · refine Ev.ite_pos (by simp [hb]) (Ev.ite_neg (by omega) ?_)
        refine ((ih (i + 1) (by omega) (by omega) xs (by omega)).2 j (by omega)).is ?_
        conv => rhs; unfold wordsGo
        rw [if_neg hb, show i + 1 - j = (i - j) + 1 by omega, List.take_add_one, List.getElem?_drop, show j + (i - j) = i by omega, List.getElem?_eq_getElem hlt]; rfl
theorem refWordsF (l : List UInt8) (hl : l.length ≤ 1100000) : Ev (fun k => bulletinref01_Words.f k (mkS l)) ((wordsL l).map mkS) := by
  have := (refWords_loop l hl _ 0 rfl (by omega) [] (by simp)).1
  exact this

/-! ### Printable -/
theorem refPrintable_loop (l : List UInt8) (hl : l.length ≤ 1100000) : ∀ d i : Nat, l.length - i = d → i ≤ l.length →
    Ev (fun k => bulletinref01_Printable.l0 k (mkS l) (i : Int)) (if spanA okPrint l i = l.length then -1 else (spanA okPrint l i : Int)) := by
  have hs := mkS_size l
  intro d
  induction d with
  | zero =>
    intro i hd hi
    refine Ev.next ?_
    simp only [bulletinref01_Printable.l0]
    refine Ev.ite_neg (by omega) (Ev.const ?_)
    rw [spanA_stop (by omega), if_pos (by omega)]
  | succ d ih =>
    intro i hd hi
    have hlt : i < l.length := by omega
    have hw := wrap_nat i (by omega)
    refine Ev.next ?_
    simp only [bulletinref01_Printable.l0]
    refine Ev.ite_pos (by omega) (Ev.ite_pos (by omega) ?_)
    rw [bt_mk l i hlt, rVisF, hw]
    simp only [Option.bind_some]
    by_cases h1 : visU l[i] = true
    · refine Ev.ite_pos h1 ((ih (i + 1) (by omega) (by omega)).is ?_)
      rw [spanA_yes (p := okPrint) hlt (by unfold okPrint; unfold visU at h1; rw [h1]; simp)]
    · refine Ev.ite_neg h1 ?_
      by_cases h2 : l[i] = 32
      · refine Ev.ite_pos ((byte32 _).2 h2) ((ih (i + 1) (by omega) (by omega)).is ?_)
        rw [spanA_yes (p := okPrint) hlt (by unfold okPrint; rw [h2]; simp)]
      · refine Ev.ite_neg (fun h => h2 ((byte32 _).1 h)) (Ev.const ?_)
        rw [spanA_no (p := okPrint) hlt (by unfold okPrint; unfold visU at h1; simp [h2]; simpa using h1), if_neg (by omega)]
theorem refPrintableF (l : List UInt8) (hl : l.length ≤ 1100000) : Ev (fun k => bulletinref01_Printable.f k (mkS l)) (printableZ l) := by
  refine (refPrintable_loop l hl _ 0 rfl (by omega)).is ?_
  have : spanA okPrint l 0 = spanL okPrint l := by unfold spanA; simp
  rw [this]; rfl

/-! ### Squeeze -/
theorem joinW_snoc (ws : List (List UInt8)) (x : List UInt8) (h : ws ≠ []) : joinW (ws ++ [x]) = joinW ws ++ ([32] ++ x) := by
  unfold joinW
  induction ws with
  | nil => exact absurd rfl h
  | cons a t ih =>
    cases t with
    | nil => simp [List.intercalate]
    | cons b t =>
      have := ih (by simp)
      simp only [List.cons_append] at this ⊢
      rw [List.intercalate_cons_cons, this, List.intercalate_cons_cons]
      simp
theorem rdOf_map (ws : List (List UInt8)) (i : Nat) (h : i < ws.length) : rdOf ByteArray.empty (ws.map mkS) (i : Int) = mkS ws[i] := by
  unfold rdOf; rw [Int.toNat_natCast, List.getD_eq_getElem?_getD, List.getElem?_map, List.getElem?_eq_getElem h]; rfl
theorem sumL_take (ws : List (List UInt8)) (i : Nat) : sumL (ws.take i) ≤ sumL ws := by
  conv => rhs; rw [← List.take_append_drop i ws]
  rw [sumL_append]; omega
theorem sumL_mem (ws : List (List UInt8)) (i : Nat) (h : i < ws.length) : ws[i].length ≤ sumL ws := by
  conv => rhs; rw [← List.take_append_drop i ws, List.drop_eq_getElem_cons h]
  rw [sumL_append]
  have : sumL (ws[i] :: ws.drop (i + 1)) = ws[i].length + sumL (ws.drop (i + 1)) := by unfold sumL; rw [List.map_cons, List.sum_cons]
  omega
theorem refSqueeze_loop (ws : List (List UInt8)) (hl : ws.length ≤ 1100000) (hs : sumL ws ≤ 1100000) : ∀ d i : Nat, ws.length - i = d → i ≤ ws.length →
    Ev (fun k => bulletinref01_Squeeze.l0 k (mkS (joinW (ws.take i))) (ws.map mkS) (i : Int)) (mkS (joinW ws)) := by
  intro d
  induction d with
  | zero =>
    intro i hd hi
    refine Ev.next ?_
    simp only [bulletinref01_Squeeze.l0, List.length_map]
    refine Ev.ite_neg (by omega) (Ev.const ?_)
    rw [List.take_of_length_le (by omega)]
  | succ d ih =>
    intro i hd hi
    have hlt : i < ws.length := by omega
    have hw := wrap_nat i (by omega)
    have h1 := joinW_len (ws.take i)
    have h2 := sumL_take ws i
    have h3 := sumL_mem ws i hlt
    simp only [List.length_take] at h1
    refine Ev.next ?_
    simp only [bulletinref01_Squeeze.l0, List.length_map]
    refine Ev.ite_pos (by omega) ?_
    rw [rdOf_map ws i hlt, hw]
    have hih := ih (i + 1) (by omega) (by omega)
    rw [List.take_succ_eq_append_getElem hlt] at hih
    by_cases h0 : i = 0
    · subst h0
      refine Ev.ite_neg (by simp) (Ev.ite_pos (by omega) (Ev.ite_pos (by rw [mkS_size, mkS_size]; omega) ?_))
      rw [mkS_append]
      simpa [joinW, List.intercalate] using hih
    · refine Ev.ite_pos (by omega) (Ev.ite_pos (by rw [mkS_size]; omega) (Ev.ite_pos (by omega) ?_))
      rw [mkS_one, mkS_append, mkS_append]
      have h4 : (joinW (List.take i ws)).length ≤ 3000000 := by omega
      have h5 : ws[i].length ≤ 3000000 := by omega
      have h6 : (mkS (joinW (List.take i ws) ++ [32])).size + (mkS ws[i]).size ≤ 9223372036854775807 := by
        rw [mkS_size, mkS_size, List.length_append, List.length_singleton]
        clear h1 h2 h3 hs hl; omega
      refine Ev.ite_pos h6 ?_
      rw [joinW_snoc _ _ (by intro h; have := congrArg List.length h; rw [List.length_take, List.length_nil] at this; omega)] at hih
      simpa using hih
theorem refSqueezeF (l : List UInt8) (hl : l.length ≤ 1100000) : Ev (fun k => bulletinref01_Squeeze.f k (mkS l)) (mkS (joinW (wordsL l))) := by
  unfold bulletinref01_Squeeze.f
  refine Ev.bind (refWordsF l hl) ?_
  have h1 := wordsL_len l
  have h2 := wordsL_sum l
  have := refSqueeze_loop (wordsL l) (by omega) (by omega) _ 0 rfl (by omega)
  simpa [joinW, List.intercalate, mkS_nil] using this
end Go.Proofs.YtfeciafdioepiaaGreatDoor

/- Plain: Check and Fold of the program. -/
namespace Go.Proofs.YtfeciafdioepiaaGreatDoor
open Go.RowKit Go.Proofs Go.Proofs.YtfeciafdioepiaaGreatDoorW.PrintWords Go.Proofs.YtfeciafdioepiaaGreatDoor.PA

def longAny (b : List UInt8) : Bool := (wordsL b).any fun x => decide (900 < x.length)
def checkL (n b : List UInt8) : Int := if validNameL n = true then (if printableZ b ≥ 0 then 6 else if joinW (wordsL b) = b then (if 8192 < b.length then 5 else if longAny b = true then 5 else 0) else 3) else 12

theorem any_long (b : List UInt8) : ((wordsL b).map mkS).any (fun x => decide (900 < x.size)) = longAny b := by
  unfold longAny
  rw [List.any_map]
  congr 1

theorem wordsB_mk (b : List UInt8) : wordsB (mkS b) = (wordsL b).map mkS := by unfold wordsB; rw [mkS_toList]
theorem checkF (n b : List UInt8) (hn : n.length ≤ 1100000) (hb : b.length ≤ 1100000) : Ev (fun k => PB.field_Field_Check.f k (mkS n) (mkS b)) (checkL n b) := by
  have hbs := mkS_size b
  have h5 := wordsL_len b
  have h6 := wordsL_sum b
  unfold PB.field_Field_Check.f checkL
  refine Ev.bind (a := (wordsL b).map mkS) (Ev.const (by unfold GV.Words.f; rw [if_pos (by omega), wordsB_mk])) ?_
  refine Ev.bind ⟨n.length + 2, fun k hk => field_ValidName_le n hn k hk⟩ ?_
  by_cases h1 : validNameL n = true
  · refine Ev.rpos h1 ?_
    refine Ev.ite_pos h1 (Ev.bind (a := printableZ b) (Ev.const (by unfold GV.Printable.f; rw [if_pos (by omega), mkS_toList])) ?_)
    by_cases h2 : printableZ b ≥ 0
    · refine Ev.rpos h2 ?_; exact Ev.ite_pos h2 (Ev.const rfl)
    · refine Ev.rneg h2 ?_
      have hj : joinB ((wordsL b).map mkS) ⟨#[32]⟩ = mkS (joinW (wordsL b)) := joinB_mk _
      have hjl := joinW_len (wordsL b)
      have hJ : GV.Join.f ((wordsL b).map mkS) ⟨#[32]⟩ = some (mkS (joinW (wordsL b))) := by
        unfold GV.Join.f
        rw [hj, if_pos ⟨by rw [List.length_map]; omega, by rw [mkS_size]; omega⟩]
      refine Ev.ite_neg h2 (Ev.bind (Ev.const hJ) ?_)
      rw [toList_mk, toList_mk]
      by_cases h3 : joinW (wordsL b) = b
      · refine Ev.rpos h3 ?_
        refine Ev.ite_pos h3 ?_
        rw [mkS_size]
        by_cases h4 : 8192 < b.length
        · refine Ev.rpos h4 ?_; exact Ev.ite_pos (by omega) (Ev.const rfl)
        · refine Ev.rneg h4 ?_
          have hS : GV.someLong.f ((wordsL b).map mkS) (Value.func (.func 120) #[] #[]) = some (longAny b) := by
            unfold GV.someLong.f
            rw [if_pos ⟨by rw [List.length_map]; omega, rfl⟩, any_long]
          refine Ev.ite_neg (by omega) (Ev.bind (Ev.const hS) ?_)
          by_cases h7 : longAny b = true
          · refine Ev.rpos h7 ?_; exact Ev.ite_pos h7 (Ev.const rfl)
          · refine Ev.rneg h7 ?_; exact Ev.ite_neg h7 (Ev.const rfl)
      · refine Ev.rneg h3 ?_; exact Ev.ite_neg h3 (Ev.const rfl)
  · refine Ev.rneg h1 ?_; exact Ev.ite_neg h1 (Ev.const rfl)

theorem check_small {n b : List UInt8} (h : checkL n b = 0) : n.length ≤ 40 ∧ b.length ≤ 8192 := by
  unfold checkL at h
  split at h
  · rename_i h1
    split at h
    · cases h
    · split at h
      · split at h
        · cases h
        · rename_i h4
          unfold validNameL at h1
          simp only [Bool.and_eq_true] at h1
          exact ⟨of_decide_eq_true h1.1.1, Nat.le_of_not_lt h4⟩
      · cases h
  · cases h
theorem foldF (n b : List UInt8) (hn : n.length ≤ 1100000) (hb : b.length ≤ 1100000) : Ev (fun k => GV.Fold.f k (mkS n) (mkS b)) (if checkL n b = 0 then (mkS (foldL n b), 0) else (⟨#[]⟩, checkL n b)) := by
  unfold GV.Fold.f
  refine Ev.bind (checkF n b hn hb) ?_
  by_cases h : checkL n b = 0
  · refine Ev.rpos h ?_
    refine Ev.ite_pos h (Ev.ite_pos ⟨by rw [mkS_size]; have := (check_small h).1; omega, by rw [mkS_size]; have := (check_small h).2; omega⟩ (Ev.const ?_))
    rw [mkS_toList, mkS_toList]
  · refine Ev.rneg h ?_; exact Ev.ite_neg h (Ev.const rfl)

end Go.Proofs.YtfeciafdioepiaaGreatDoor
