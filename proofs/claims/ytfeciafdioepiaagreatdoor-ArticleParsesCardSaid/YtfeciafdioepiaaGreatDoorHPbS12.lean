/- Merged texts: P1, P2, P3 -/
import Derived.Test.YtfeciafdioepiaaGreatDoorProg
import Derived.Below
import Derived.Deep.Draws
import Derived.Deep.AppendLies
import Derived.Maps.AppendAt
import Derived.OwnWalk
import Derived.Laws.BytesArg
import Derived.Laws.MakeOwn
import Derived.Laws.OwnMore
import Derived.Deep.OwnRows
import Derived.Tactics
import Derived.Lib.ConvBytes
import Derived.Laws.Slices
import Derived.WalkKit
import Derived.KernelRfl
import Derived.RowKit3
import Derived.Deep.LoopGhost
import Derived.Deep.QuietTactic
import Derived.BigQuiet
import Derived.WideLaws
import Derived.Deep.DeepCutAuto
import Derived.Deep.CutBlock
import Derived.Deep.RegionHeld3
import Derived.Laws.Rows
import Derived.Lib.AppendStr
import Derived.ArgAppend
import Derived.Laws.IdiomCopy
import Derived.OrdersHeld
import Derived.Laws.BitsLemmas
import Derived.RowKit
import Derived.Test.YtfeciafdioepiaaGreatDoorHPbS11
import Derived.Test.YtfeciafdioepiaaGreatDoorHPbS2
import Derived.Test.YtfeciafdioepiaaGreatDoorHPbS5
import Derived.Test.YtfeciafdioepiaaGreatDoorHPbS6
import Derived.Test.YtfeciafdioepiaaGreatDoorHPbS10
import Derived.Test.YtfeciafdioepiaaGreatDoorHPbS8
import Derived.Test.YtfeciafdioepiaaGreatDoorHPbS0
import Derived.Test.YtfeciafdioepiaaGreatDoorHPbS1
import Derived.Laws.StructEq
namespace Go.Proofs.YtfeciafdioepiaaGreatDoor.PL
open Go.Proofs.YtfeciafdioepiaaGreatDoor.PA
open Go.Proofs.YtfeciafdioepiaaGreatDoor
open Go.RowKit Go.Proofs.YtfeciafdioepiaaGreatDoorW.PrintWords Go.Proofs.YtfeciafdioepiaaGreatDoorW.PrintLast Go.Proofs.YtfeciafdioepiaaGreatDoorW.PrintMore
attribute [local go_sem] max2_int min2_int max_two min_two max_three min_three max_four min_four   -- for this text's walks alone
set_option linter.unusedVariables false
set_option linter.unusedSimpArgs false

/-! ### bulletinlaw15_ArticleBodies: function 4 -/
/-! ### bulletinlaw15_ArticleParses: function 3 -/
def bulletinlaw15_ArticleParses.j0 : Nat → Int → Bool → List (S76) → ByteArray → List (S78) → ByteArray → Option (Bool)
  | 0, _, _, _, _, _, _ => none
  | k + 1, x5, x45, x115000, x115001, x122000, x122001 => if x45 = true then (some false) else (if x5 = 0 then ((PC.article_Print.f k x115000 x115001).bind fun bt124 => ((GV.AParse.f k bt124.1).bind fun bt126 => (if bt124.2 = 5 then (some true) else (if bt124.2 = 0 then (if bt126.2.2.2 = 0 then ((PA.bulletinlaw15_same.f k bt126.1 bt126.2.1 x122000 x122001).bind fun t133 => (some t133)) else (some false)) else (some false))))) else (some true))
def bulletinlaw15_ArticleParses.f (k : Nat) (a0 : ByteArray) : Option (Bool) := (PA.bulletinlaw15_short.f a0 5000).bind fun t107 => ((GV.AParse.f k t107).bind fun bt108 => ((PA.bulletinref15_Parse.f k t107).bind fun bt115 => ((GV.known.f).bind fun t122 => (if t122 = true then ((PA.bulletinlaw15_same.f k bt108.1 bt108.2.1 bt115.1 bt115.2.1).bind fun t123 => (if t123 = true then (if bt108.2.2.1 = bt115.2.2.1 then (bulletinlaw15_ArticleParses.j0 k bt108.2.2.2 (bt108.2.2.2 != bt115.2.2.2) bt108.1 bt108.2.1 bt115.1 bt115.2.1) else (bulletinlaw15_ArticleParses.j0 k bt108.2.2.2 true bt108.1 bt108.2.1 bt115.1 bt115.2.1)) else (bulletinlaw15_ArticleParses.j0 k bt108.2.2.2 true bt108.1 bt108.2.1 bt115.1 bt115.2.1))) else (bulletinlaw15_ArticleParses.j0 k bt108.2.2.2 true bt108.1 bt108.2.1 bt115.1 bt115.2.1)))))
set_option maxHeartbeats 8000000 in
set_option maxRecDepth 100000 in
theorem bulletinlaw15_ArticleParses.calls (k : Nat) (a0 : ByteArray) (r : Bool) (w : World) (hgm : Gm w) (h : bulletinlaw15_ArticleParses.f k a0 = some r) :
    Calls Tryz.prog 3 #[.string a0] w fun e w' => e = .returned (.bool r) ∧ Below w.heap.size w w' := by
  have hu25 := Tryz.underlying25
  have hu31 := Tryz.underlying31
  have HGM := Aside0.mk hgm
  clear hgm
  have HB := Aside0.mk (Below.refl w.heap.size w)
  have H : ((PA.bulletinlaw15_short.f a0 5000).bind fun t107 => ((GV.AParse.f k t107).bind fun bt108 => ((PA.bulletinref15_Parse.f k t107).bind fun bt115 => ((GV.known.f).bind fun t122 => (if t122 = true then ((PA.bulletinlaw15_same.f k bt108.1 bt108.2.1 bt115.1 bt115.2.1).bind fun t123 => (if t123 = true then (if bt108.2.2.1 = bt115.2.2.1 then (bulletinlaw15_ArticleParses.j0 k bt108.2.2.2 (bt108.2.2.2 != bt115.2.2.2) bt108.1 bt108.2.1 bt115.1 bt115.2.1) else (bulletinlaw15_ArticleParses.j0 k bt108.2.2.2 true bt108.1 bt108.2.1 bt115.1 bt115.2.1)) else (bulletinlaw15_ArticleParses.j0 k bt108.2.2.2 true bt108.1 bt108.2.1 bt115.1 bt115.2.1))) else (bulletinlaw15_ArticleParses.j0 k bt108.2.2.2 true bt108.1 bt108.2.1 bt115.1 bt115.2.1)))))) = some r := h
  clear h
  replace H := Option.bind_eq_some_iff.mp H
  obtain ⟨t107, A20, H⟩ := H
  replace H : ((GV.AParse.f k t107).bind fun bt108 => ((PA.bulletinref15_Parse.f k t107).bind fun bt115 => ((GV.known.f).bind fun t122 => (if t122 = true then ((PA.bulletinlaw15_same.f k bt108.1 bt108.2.1 bt115.1 bt115.2.1).bind fun t123 => (if t123 = true then (if bt108.2.2.1 = bt115.2.2.1 then (bulletinlaw15_ArticleParses.j0 k bt108.2.2.2 (bt108.2.2.2 != bt115.2.2.2) bt108.1 bt108.2.1 bt115.1 bt115.2.1) else (bulletinlaw15_ArticleParses.j0 k bt108.2.2.2 true bt108.1 bt108.2.1 bt115.1 bt115.2.1)) else (bulletinlaw15_ArticleParses.j0 k bt108.2.2.2 true bt108.1 bt108.2.1 bt115.1 bt115.2.1))) else (bulletinlaw15_ArticleParses.j0 k bt108.2.2.2 true bt108.1 bt108.2.1 bt115.1 bt115.2.1))))) = some r := H
  have A2 := Aside0.mk A20
  clear A20
  replace H := Option.bind_eq_some_iff.mp H
  obtain ⟨⟨t108, t111, t112, t113⟩, A30, H⟩ := H
  replace H : ((PA.bulletinref15_Parse.f k t107).bind fun bt115 => ((GV.known.f).bind fun t122 => (if t122 = true then ((PA.bulletinlaw15_same.f k t108 t111 bt115.1 bt115.2.1).bind fun t123 => (if t123 = true then (if t112 = bt115.2.2.1 then (bulletinlaw15_ArticleParses.j0 k t113 (t113 != bt115.2.2.2) t108 t111 bt115.1 bt115.2.1) else (bulletinlaw15_ArticleParses.j0 k t113 true t108 t111 bt115.1 bt115.2.1)) else (bulletinlaw15_ArticleParses.j0 k t113 true t108 t111 bt115.1 bt115.2.1))) else (bulletinlaw15_ArticleParses.j0 k t113 true t108 t111 bt115.1 bt115.2.1)))) = some r := H
  have A3 := Aside0.mk A30
  clear A30
  replace H := Option.bind_eq_some_iff.mp H
  obtain ⟨⟨t115, t118, t119, t120⟩, A40, H⟩ := H
  replace H : ((GV.known.f).bind fun t122 => (if t122 = true then ((PA.bulletinlaw15_same.f k t108 t111 t115 t118).bind fun t123 => (if t123 = true then (if t112 = t119 then (bulletinlaw15_ArticleParses.j0 k t113 (t113 != t120) t108 t111 t115 t118) else (bulletinlaw15_ArticleParses.j0 k t113 true t108 t111 t115 t118)) else (bulletinlaw15_ArticleParses.j0 k t113 true t108 t111 t115 t118))) else (bulletinlaw15_ArticleParses.j0 k t113 true t108 t111 t115 t118))) = some r := H
  have A4 := Aside0.mk A40
  clear A40
  have HC5 := Aside0.mk H
  clear H
  go_enter Tryz.func3, Tryz.ntmps3
  go_upto_region 4 with (first | ((with_reducible refine gate_callee (f := 11) rfl ?_); refine goesL_ (some 15) rfl rfl Tryz.func11 (by kernel_rfl) rfl #[.string a0, .int .i64 5000] rfl (by (try simp only [List.map_toArray, List.map_cons, List.map_nil]); first | done | rfl | (simp only [List.length_drop, List.length_take]; rfl)) ?_; (with_reducible refine (PA.bulletinlaw15_short.calls a0 5000 t107 _ A2.out).mono ?_); rintro e w6 ⟨rfl, hb⟩; refine ⟨_, rfl, ?_⟩; have n0_ := Aside0.mk (below_step (by repeat (first | (with_reducible first | exact HB.out | apply below_alloc | apply pw_below_drewN | apply below_drew1) | exact HB.out)) hb); clear HB; have HB := n0_; clear n0_; (try clear hb); (try clear hb2); (try clear hk); (try clear hi)) | ((with_reducible refine gate_callee (f := 12) rfl ?_); refine goesL_ (some 18) rfl rfl Tryz.func12 (by kernel_rfl) rfl #[.string t107] rfl (by (try simp only [List.map_toArray, List.map_cons, List.map_nil]); first | done | rfl | (simp only [List.length_drop, List.length_take]; rfl)) ?_; (with_reducible refine (GV.AParse.calls k t107 t108 t111 t112 t113 _ ?side1 A3.out).mono ?_); (case side1 => exact gm_at HGM.out (by repeat (first | (with_reducible first | exact HB.out | apply below_alloc | apply pw_below_drewN | apply below_drew1) | exact HB.out))); rintro e w7 ⟨v109, rfl, ho0, hb⟩; refine ⟨_, rfl, ?_⟩; have n0_ := Aside0.mk (Kd.R_lower ho0 (below_size (by repeat (first | (with_reducible first | exact HB.out | apply below_alloc | apply pw_below_drewN | apply below_drew1) | exact HB.out)))); have n1_ := Aside0.mk (below_step (by repeat (first | (with_reducible first | exact HB.out | apply below_alloc | apply pw_below_drewN | apply below_drew1) | exact HB.out)) hb); clear HB; have HO110 := n0_; have HB := n1_; clear n0_ n1_; (try clear hb); (try clear hb2); (try clear hk); (try clear hi); (try clear ho0)) | ((with_reducible refine gate_dst (N := 3) rfl ?_); refine box_event ?hg (N := 3) ?hd (cs := #[.slice none 0 0, .string (⟨#[]⟩ : ByteArray)]) (t := 25) ?hr ?_; (case hd => rfl); (case hg => rfl); (case hr => first | (go_simp; done) | (go_simp; rfl)); intro gb114 hg w8 hbox hb; have n0_ := Aside0.mk (Kd.R_below (by (with_reducible repeat (first | apply Kd.R_alloc | apply Kd.R_drewN | apply Kd.R_drew)); exact HO110.out) hb); have n1_ := Aside0.mk (below_step (by repeat (first | (with_reducible first | exact HB.out | apply below_alloc | apply pw_below_drewN | apply below_drew1) | exact HB.out)) hb); have n2_ := Aside0.mk (hbox); have n3_ := Aside0.mk ((by rw [hg]; exact (below_size (by repeat (first | (with_reducible first | exact HB.out | apply below_alloc | apply pw_below_drewN | apply below_drew1) | exact HB.out))) : w.heap.size ≤ gb114)); have n4_ := Aside0.mk ((by rw [hg]; exact (below_size (by repeat (first | (with_reducible first | exact HB.out | apply below_alloc | apply pw_below_drewN | apply below_drew1) | exact HB.out))) : w.heap.size ≤ gb114)); clear HO110; clear HB; have HO110 := n0_; have HB := n1_; have BK114 := n2_; have GW114 := n3_; have GE114 := n4_; clear n0_ n1_ n2_ n3_ n4_; clear hb hbox hg; obtain ⟨Ao9, co9, eo9⟩ := Kd.R_slice HO110.out; subst eo9; have hcz10_0 : w8.cell? ⟨gb114, 0, none⟩ = some (.slice none 0 0) := (blk_cell BK114.out 0).trans rfl; have hcz10_1 : w8.cell? ⟨gb114, 1, none⟩ = some (.string (⟨#[]⟩ : ByteArray)) := (blk_cell BK114.out 1).trans rfl; have hfz10_0 := blk_frozen BK114.out 0; have hfz10_1 := blk_frozen BK114.out 1) | ((with_reducible refine gate_callee (f := 13) rfl ?_); refine goesL_ (some 24) rfl rfl Tryz.func13 (by kernel_rfl) rfl #[.string t107] rfl (by (try simp only [List.map_toArray, List.map_cons, List.map_nil]); first | done | rfl | (simp only [List.length_drop, List.length_take]; rfl)) ?_; (with_reducible refine (PA.bulletinref15_Parse.calls k t107 t115 t118 t119 t120 _ A4.out).mono ?_); rintro e w11 ⟨v116, rfl, ho0, hb⟩; refine ⟨_, rfl, ?_⟩; have n0_ := Aside0.mk (Kd.R_below (by (with_reducible repeat (first | apply Kd.R_alloc | apply Kd.R_drewN | apply Kd.R_drew)); exact (Kd.R_mono (Kd.R_far (p := ⟨gb114, 1, none⟩) (Kd.R_far (p := ⟨gb114, 0, none⟩) (Kd.R_types HO110.out BK114.out (by decide)) (fun _ hk => hk.2) (.slice Ao9 t108.length co9)) (fun _ hk => hk.2) (.string t111)) (fun _ h_ => h_.1))) hb); have n1_ := Aside0.mk (Kd.R_lower ho0 (below_size (by repeat (first | (with_reducible first | exact HB.out | apply below_alloc | apply pw_below_drewN | apply below_drew1 | refine below_set ?_ GE114.out) | exact HB.out)))); have n2_ := Aside0.mk (blk_below (g := gb114) (o := .cells #[.slice Ao9 t108.length co9, .string t111] 25 (0, 0)) (by (with_reducible repeat (first | refine blk_drewN ?_ _ | refine blk_drew ?_ | refine blk_alloc ?_ _)); refine blk_put (cs := #[.slice Ao9 t108.length co9, .string (⟨#[]⟩ : ByteArray)]) ?_ 1 _ rfl; (with_reducible repeat (first | refine blk_drewN ?_ _ | refine blk_drew ?_ | refine blk_alloc ?_ _)); refine blk_put (cs := #[.slice none 0 0, .string (⟨#[]⟩ : ByteArray)]) ?_ 0 _ rfl; (with_reducible repeat (first | refine blk_drewN ?_ _ | refine blk_drew ?_ | refine blk_alloc ?_ _)); exact BK114.out) hb); have n3_ := Aside0.mk (below_step (by repeat (first | (with_reducible first | exact HB.out | apply below_alloc | apply pw_below_drewN | apply below_drew1 | refine below_set ?_ GE114.out) | exact HB.out)) hb); clear HO110; clear BK114; clear HB; have HO110 := n0_; have HO117 := n1_; have BK114 := n2_; have HB := n3_; clear n0_ n1_ n2_ n3_; (try clear hb); (try clear hb2); (try clear hk); (try clear hi); (try clear ho0)) | ((with_reducible refine gate_dst (N := 6) rfl ?_); refine box_event ?hg (N := 6) ?hd (cs := #[.slice none 0 0, .string (⟨#[]⟩ : ByteArray)]) (t := 31) ?hr ?_; (case hd => rfl); (case hg => rfl); (case hr => first | (go_simp; done) | (go_simp; rfl)); intro gb121 hg w12 hbox hb; have n0_ := Aside0.mk (Kd.R_below (by (with_reducible repeat (first | apply Kd.R_alloc | apply Kd.R_drewN | apply Kd.R_drew)); exact HO110.out) hb); have n1_ := Aside0.mk (Kd.R_below (by (with_reducible repeat (first | apply Kd.R_alloc | apply Kd.R_drewN | apply Kd.R_drew)); exact HO117.out) hb); have n2_ := Aside0.mk (blk_below (g := gb114) (o := .cells #[.slice Ao9 t108.length co9, .string t111] 25 (0, 0)) (by (with_reducible repeat (first | refine blk_drewN ?_ _ | refine blk_drew ?_ | refine blk_alloc ?_ _)); exact BK114.out) hb); have n3_ := Aside0.mk (below_step (by repeat (first | (with_reducible first | exact HB.out | apply below_alloc | apply pw_below_drewN | apply below_drew1 | refine below_set ?_ GE114.out) | exact HB.out)) hb); have n4_ := Aside0.mk (hbox); have n5_ := Aside0.mk ((by rw [hg]; exact (below_size (by repeat (first | (with_reducible first | exact HB.out | apply below_alloc | apply pw_below_drewN | apply below_drew1 | refine below_set ?_ GE114.out) | exact HB.out))) : w.heap.size ≤ gb121)); have n6_ := Aside0.mk ((by rw [hg]; exact (below_size (by repeat (first | (with_reducible first | exact HB.out | apply below_alloc | apply pw_below_drewN | apply below_drew1 | refine below_set ?_ GE114.out) | exact HB.out))) : w.heap.size ≤ gb121)); have n7_ := Aside0.mk ((by rw [hg]; exact Nat.ne_of_lt (blk_lt (g := gb114) (o := .cells #[.slice Ao9 t108.length co9, .string t111] 25 (0, 0)) (by (with_reducible repeat (first | refine blk_drewN ?_ _ | refine blk_drew ?_ | refine blk_alloc ?_ _)); exact BK114.out)) : gb114 ≠ gb121)); have n8_ := Aside0.mk ((by rw [hg]; exact Nat.ne_of_gt (blk_lt (g := gb114) (o := .cells #[.slice Ao9 t108.length co9, .string t111] 25 (0, 0)) (by (with_reducible repeat (first | refine blk_drewN ?_ _ | refine blk_drew ?_ | refine blk_alloc ?_ _)); exact BK114.out)) : gb121 ≠ gb114)); clear HO110; clear HO117; clear BK114; clear HB; have HO110 := n0_; have HO117 := n1_; have BK114 := n2_; have HB := n3_; have BK121 := n4_; have GW121 := n5_; have GE121 := n6_; have NB114_121 := n7_; have NB121_114 := n8_; clear n0_ n1_ n2_ n3_ n4_ n5_ n6_ n7_ n8_; clear hb hbox hg; obtain ⟨Ao13, co13, eo13⟩ := Kd.R_slice HO117.out; subst eo13; have hnb14 := NB121_114.out; have hnc14 := NB114_121.out; have hcz15_0 : w12.cell? ⟨gb121, 0, none⟩ = some (.slice none 0 0) := (blk_cell BK121.out 0).trans rfl; have hcz15_1 : w12.cell? ⟨gb121, 1, none⟩ = some (.string (⟨#[]⟩ : ByteArray)) := (blk_cell BK121.out 1).trans rfl; have hfz15_0 := blk_frozen BK121.out 0; have hfz15_1 := blk_frozen BK121.out 1))
  (try simp only [Act.put, List.setIfInBounds_toArray, List.set_cons_zero, List.set_cons_succ])
  go_cut [45] (fun v45 wc => ∃ (kq : Nat) (x45_4 : Bool), v45 = .bool x45_4 ∧ Aside0 (bulletinlaw15_ArticleParses.j0 kq t113 x45_4 t108 t111 t115 t118 = some r) ∧ Aside0 (kq ≤ k) ∧ Aside0 (Kd.R k76 76 wc w.heap.size (fun _ => True) (.slice Ao9 t108.length co9) t108) ∧ Aside0 (Kd.R k78 78 wc w.heap.size (fun _ => True) (.slice Ao13 t115.length co13) t115) ∧ Aside0 (wc.heap[gb114]? = some (.cells #[(.slice Ao9 t108.length co9), .string t111] 25 (0, 0))) ∧ Aside0 (wc.heap[gb121]? = some (.cells #[(.slice Ao13 t115.length co13), .string t118] 31 (0, 0))) ∧ Aside0 (Below w.heap.size w wc))
  case first =>
    have H := HC5.out
    clear HC5
    replace H := Option.bind_eq_some_iff.mp H
    obtain ⟨t122, A160, H⟩ := H
    replace H : (if t122 = true then ((PA.bulletinlaw15_same.f k t108 t111 t115 t118).bind fun t123 => (if t123 = true then (if t112 = t119 then (bulletinlaw15_ArticleParses.j0 k t113 (t113 != t120) t108 t111 t115 t118) else (bulletinlaw15_ArticleParses.j0 k t113 true t108 t111 t115 t118)) else (bulletinlaw15_ArticleParses.j0 k t113 true t108 t111 t115 t118))) else (bulletinlaw15_ArticleParses.j0 k t113 true t108 t111 t115 t118)) = some r := H
    have A16 := Aside0.mk A160
    clear A160
    by_cases c17 : t122 = true
    · subst c17
      have H1 : ((PA.bulletinlaw15_same.f k t108 t111 t115 t118).bind fun t123 => (if t123 = true then (if t112 = t119 then (bulletinlaw15_ArticleParses.j0 k t113 (t113 != t120) t108 t111 t115 t118) else (bulletinlaw15_ArticleParses.j0 k t113 true t108 t111 t115 t118)) else (bulletinlaw15_ArticleParses.j0 k t113 true t108 t111 t115 t118))) = some r := by rw [if_pos rfl] at H; exact H
      clear H
      have H := H1
      clear H1
      replace H := Option.bind_eq_some_iff.mp H
      obtain ⟨t123, A180, H⟩ := H
      replace H : (if t123 = true then (if t112 = t119 then (bulletinlaw15_ArticleParses.j0 k t113 (t113 != t120) t108 t111 t115 t118) else (bulletinlaw15_ArticleParses.j0 k t113 true t108 t111 t115 t118)) else (bulletinlaw15_ArticleParses.j0 k t113 true t108 t111 t115 t118)) = some r := H
      have A18 := Aside0.mk A180
      clear A180
      by_cases c19 : t123 = true
      · subst c19
        have H1 : (if t112 = t119 then (bulletinlaw15_ArticleParses.j0 k t113 (t113 != t120) t108 t111 t115 t118) else (bulletinlaw15_ArticleParses.j0 k t113 true t108 t111 t115 t118)) = some r := by rw [if_pos rfl] at H; exact H
        clear H
        have H := H1
        clear H1
        by_cases c20 : t112 = t119
        · rw [if_pos c20] at H
          have c20b0 : (t112 == t119) = true := beq_iff_eq.mpr c20
          have c20b1 : (t112 != t119) = false := bne_eq_false_iff_eq.mpr c20
          clear c20
          (first | rw [c20b0] | (simp only [i64_w, i32_w]; rw [c20b0]) | skip)
          have H' := Aside0.mk H
          clear H
          go_wp2_with (first | ((with_reducible refine gate_callee (f := 14) rfl ?_); refine goesL_ (some 28) rfl rfl Tryz.func14 (by kernel_rfl) rfl #[] rfl (by (try simp only [List.map_toArray, List.map_cons, List.map_nil]); first | done | rfl | (simp only [List.length_drop, List.length_take]; rfl)) ?_; (with_reducible refine (GV.known.calls  true _ ?side1 A16.out).mono ?_); (case side1 => exact gm_at HGM.out (by repeat (first | (with_reducible first | exact HB.out | apply below_alloc | apply pw_below_drewN | apply below_drew1 | refine below_set ?_ GE114.out | refine below_set ?_ GE121.out) | exact HB.out))); rintro e w21 ⟨rfl, hb⟩; refine ⟨_, rfl, ?_⟩; have n0_ := Aside0.mk (Kd.R_below (by (with_reducible repeat (first | apply Kd.R_alloc | apply Kd.R_drewN | apply Kd.R_drew)); exact (Kd.R_mono (Kd.R_far (p := ⟨gb121, 1, none⟩) (Kd.R_far (p := ⟨gb121, 0, none⟩) (Kd.R_types HO110.out BK121.out (by decide)) (fun _ hk => hk.2) (.slice Ao13 t115.length co13)) (fun _ hk => hk.2) (.string t118)) (fun _ h_ => h_.1))) hb); have n1_ := Aside0.mk (Kd.R_below (by (with_reducible repeat (first | apply Kd.R_alloc | apply Kd.R_drewN | apply Kd.R_drew)); exact (Kd.R_mono (Kd.R_far (p := ⟨gb121, 1, none⟩) (Kd.R_far (p := ⟨gb121, 0, none⟩) (Kd.R_types HO117.out BK121.out (by decide)) (fun _ hk => hk.2) (.slice Ao13 t115.length co13)) (fun _ hk => hk.2) (.string t118)) (fun _ h_ => h_.1))) hb); have n2_ := Aside0.mk (blk_below (g := gb114) (o := .cells #[.slice Ao9 t108.length co9, .string t111] 25 (0, 0)) (by (with_reducible repeat (first | refine blk_drewN ?_ _ | refine blk_drew ?_ | refine blk_alloc ?_ _)); refine blk_far ?_ NB114_121.out _; (with_reducible repeat (first | refine blk_drewN ?_ _ | refine blk_drew ?_ | refine blk_alloc ?_ _)); refine blk_far ?_ NB114_121.out _; (with_reducible repeat (first | refine blk_drewN ?_ _ | refine blk_drew ?_ | refine blk_alloc ?_ _)); exact BK114.out) hb); have n3_ := Aside0.mk (blk_below (g := gb121) (o := .cells #[.slice Ao13 t115.length co13, .string t118] 31 (0, 0)) (by (with_reducible repeat (first | refine blk_drewN ?_ _ | refine blk_drew ?_ | refine blk_alloc ?_ _)); refine blk_put (cs := #[.slice Ao13 t115.length co13, .string (⟨#[]⟩ : ByteArray)]) ?_ 1 _ rfl; (with_reducible repeat (first | refine blk_drewN ?_ _ | refine blk_drew ?_ | refine blk_alloc ?_ _)); refine blk_put (cs := #[.slice none 0 0, .string (⟨#[]⟩ : ByteArray)]) ?_ 0 _ rfl; (with_reducible repeat (first | refine blk_drewN ?_ _ | refine blk_drew ?_ | refine blk_alloc ?_ _)); exact BK121.out) hb); have n4_ := Aside0.mk (below_step (by repeat (first | (with_reducible first | exact HB.out | apply below_alloc | apply pw_below_drewN | apply below_drew1 | refine below_set ?_ GE114.out | refine below_set ?_ GE121.out) | exact HB.out)) hb); clear HO110; clear HO117; clear BK114; clear BK121; clear HB; have HO110 := n0_; have HO117 := n1_; have BK114 := n2_; have BK121 := n3_; have HB := n4_; clear n0_ n1_ n2_ n3_ n4_; (try clear hb); (try clear hb2); (try clear hk); (try clear hi); have hnb22 := NB114_121.out; have hnc22 := NB121_114.out; have hcz23_0 : w21.cell? ⟨gb114, 0, none⟩ = some (.slice Ao9 t108.length co9) := (blk_cell BK114.out 0).trans rfl; have hcz23_1 : w21.cell? ⟨gb114, 1, none⟩ = some (.string t111) := (blk_cell BK114.out 1).trans rfl; have hfz23_0 := blk_frozen BK114.out 0; have hfz23_1 := blk_frozen BK114.out 1; have hcz24_0 : w21.cell? ⟨gb121, 0, none⟩ = some (.slice Ao13 t115.length co13) := (blk_cell BK121.out 0).trans rfl; have hcz24_1 : w21.cell? ⟨gb121, 1, none⟩ = some (.string t118) := (blk_cell BK121.out 1).trans rfl; have hfz24_0 := blk_frozen BK121.out 0; have hfz24_1 := blk_frozen BK121.out 1) | (go_at_call 15; (with_reducible refine (PA.bulletinlaw15_same.calls k _ _ t108 t111 _ _ t115 t118 true _ ?side1 ?side2 ?side3 ?side4 A18.out).mono ?_); (case side1 => repeat (first | exact (Kd.R_reads' HO110.out).2.2 | (with_reducible refine Kd.C_alloc ?_ _) | (with_reducible refine Kd.C_drewN ?_ _) | (with_reducible refine Kd.C_drew ?_))); (case side2 => exact (Kd.R_reads' HO110.out).2.1); (case side3 => repeat (first | exact (Kd.R_reads' HO117.out).2.2 | (with_reducible refine Kd.C_alloc ?_ _) | (with_reducible refine Kd.C_drewN ?_ _) | (with_reducible refine Kd.C_drew ?_))); (case side4 => exact (Kd.R_reads' HO117.out).2.1); rintro e w25 ⟨rfl, hb⟩; have n0_ := Aside0.mk (Kd.R_below (by (with_reducible repeat (first | apply Kd.R_alloc | apply Kd.R_drewN | apply Kd.R_drew)); exact HO110.out) hb); have n1_ := Aside0.mk (Kd.R_below (by (with_reducible repeat (first | apply Kd.R_alloc | apply Kd.R_drewN | apply Kd.R_drew)); exact HO117.out) hb); have n2_ := Aside0.mk (blk_below (g := gb114) (o := .cells #[.slice Ao9 t108.length co9, .string t111] 25 (0, 0)) (by (with_reducible repeat (first | refine blk_drewN ?_ _ | refine blk_drew ?_ | refine blk_alloc ?_ _)); exact BK114.out) hb); have n3_ := Aside0.mk (blk_below (g := gb121) (o := .cells #[.slice Ao13 t115.length co13, .string t118] 31 (0, 0)) (by (with_reducible repeat (first | refine blk_drewN ?_ _ | refine blk_drew ?_ | refine blk_alloc ?_ _)); exact BK121.out) hb); have n4_ := Aside0.mk (below_step (by repeat (first | (with_reducible first | exact HB.out | apply below_alloc | apply pw_below_drewN | apply below_drew1 | refine below_set ?_ GE114.out | refine below_set ?_ GE121.out) | exact HB.out)) hb); clear HO110; clear HO117; clear BK114; clear BK121; clear HB; have HO110 := n0_; have HO117 := n1_; have BK114 := n2_; have BK121 := n3_; have HB := n4_; clear n0_ n1_ n2_ n3_ n4_; (try clear hb); (try clear hb2); (try clear hk); (try clear hi)))
          go_meet
          case rel => exact ⟨_, ((t113 != t120)), (by first | rfl | (simp; done) | (simp [*]; done)), H', ⟨by first | omega | exact Nat.le_refl _⟩, ⟨by (with_reducible repeat (first | apply Kd.R_alloc | apply Kd.R_drewN | apply Kd.R_drew)); exact HO110.out⟩, ⟨by (with_reducible repeat (first | apply Kd.R_alloc | apply Kd.R_drewN | apply Kd.R_drew)); exact HO117.out⟩, ⟨by (with_reducible repeat (first | refine blk_drewN ?_ _ | refine blk_drew ?_ | refine blk_alloc ?_ _)); exact BK114.out⟩, ⟨by (with_reducible repeat (first | refine blk_drewN ?_ _ | refine blk_drew ?_ | refine blk_alloc ?_ _)); exact BK121.out⟩, ⟨by repeat (first | (with_reducible first | exact HB.out | apply below_alloc | apply pw_below_drewN | apply below_drew1 | refine below_set ?_ GE114.out | refine below_set ?_ GE121.out) | exact HB.out)⟩⟩
        · rw [if_neg c20] at H
          have c20b0 : (t112 == t119) = false := beq_eq_false_iff_ne.mpr c20
          have c20b1 : (t112 != t119) = true := bne_iff_ne.mpr c20
          (first | rw [c20b0] | (simp only [i64_w, i32_w]; rw [c20b0]) | skip)
          have H' := Aside0.mk H
          clear H
          go_wp2_with (first | ((with_reducible refine gate_callee (f := 14) rfl ?_); refine goesL_ (some 28) rfl rfl Tryz.func14 (by kernel_rfl) rfl #[] rfl (by (try simp only [List.map_toArray, List.map_cons, List.map_nil]); first | done | rfl | (simp only [List.length_drop, List.length_take]; rfl)) ?_; (with_reducible refine (GV.known.calls  true _ ?side1 A16.out).mono ?_); (case side1 => exact gm_at HGM.out (by repeat (first | (with_reducible first | exact HB.out | apply below_alloc | apply pw_below_drewN | apply below_drew1 | refine below_set ?_ GE114.out | refine below_set ?_ GE121.out) | exact HB.out))); rintro e w26 ⟨rfl, hb⟩; refine ⟨_, rfl, ?_⟩; have n0_ := Aside0.mk (Kd.R_below (by (with_reducible repeat (first | apply Kd.R_alloc | apply Kd.R_drewN | apply Kd.R_drew)); exact (Kd.R_mono (Kd.R_far (p := ⟨gb121, 1, none⟩) (Kd.R_far (p := ⟨gb121, 0, none⟩) (Kd.R_types HO110.out BK121.out (by decide)) (fun _ hk => hk.2) (.slice Ao13 t115.length co13)) (fun _ hk => hk.2) (.string t118)) (fun _ h_ => h_.1))) hb); have n1_ := Aside0.mk (Kd.R_below (by (with_reducible repeat (first | apply Kd.R_alloc | apply Kd.R_drewN | apply Kd.R_drew)); exact (Kd.R_mono (Kd.R_far (p := ⟨gb121, 1, none⟩) (Kd.R_far (p := ⟨gb121, 0, none⟩) (Kd.R_types HO117.out BK121.out (by decide)) (fun _ hk => hk.2) (.slice Ao13 t115.length co13)) (fun _ hk => hk.2) (.string t118)) (fun _ h_ => h_.1))) hb); have n2_ := Aside0.mk (blk_below (g := gb114) (o := .cells #[.slice Ao9 t108.length co9, .string t111] 25 (0, 0)) (by (with_reducible repeat (first | refine blk_drewN ?_ _ | refine blk_drew ?_ | refine blk_alloc ?_ _)); refine blk_far ?_ NB114_121.out _; (with_reducible repeat (first | refine blk_drewN ?_ _ | refine blk_drew ?_ | refine blk_alloc ?_ _)); refine blk_far ?_ NB114_121.out _; (with_reducible repeat (first | refine blk_drewN ?_ _ | refine blk_drew ?_ | refine blk_alloc ?_ _)); exact BK114.out) hb); have n3_ := Aside0.mk (blk_below (g := gb121) (o := .cells #[.slice Ao13 t115.length co13, .string t118] 31 (0, 0)) (by (with_reducible repeat (first | refine blk_drewN ?_ _ | refine blk_drew ?_ | refine blk_alloc ?_ _)); refine blk_put (cs := #[.slice Ao13 t115.length co13, .string (⟨#[]⟩ : ByteArray)]) ?_ 1 _ rfl; (with_reducible repeat (first | refine blk_drewN ?_ _ | refine blk_drew ?_ | refine blk_alloc ?_ _)); refine blk_put (cs := #[.slice none 0 0, .string (⟨#[]⟩ : ByteArray)]) ?_ 0 _ rfl; (with_reducible repeat (first | refine blk_drewN ?_ _ | refine blk_drew ?_ | refine blk_alloc ?_ _)); exact BK121.out) hb); have n4_ := Aside0.mk (below_step (by repeat (first | (with_reducible first | exact HB.out | apply below_alloc | apply pw_below_drewN | apply below_drew1 | refine below_set ?_ GE114.out | refine below_set ?_ GE121.out) | exact HB.out)) hb); clear HO110; clear HO117; clear BK114; clear BK121; clear HB; have HO110 := n0_; have HO117 := n1_; have BK114 := n2_; have BK121 := n3_; have HB := n4_; clear n0_ n1_ n2_ n3_ n4_; (try clear hb); (try clear hb2); (try clear hk); (try clear hi); have hnb27 := NB114_121.out; have hnc27 := NB121_114.out; have hcz28_0 : w26.cell? ⟨gb114, 0, none⟩ = some (.slice Ao9 t108.length co9) := (blk_cell BK114.out 0).trans rfl; have hcz28_1 : w26.cell? ⟨gb114, 1, none⟩ = some (.string t111) := (blk_cell BK114.out 1).trans rfl; have hfz28_0 := blk_frozen BK114.out 0; have hfz28_1 := blk_frozen BK114.out 1; have hcz29_0 : w26.cell? ⟨gb121, 0, none⟩ = some (.slice Ao13 t115.length co13) := (blk_cell BK121.out 0).trans rfl; have hcz29_1 : w26.cell? ⟨gb121, 1, none⟩ = some (.string t118) := (blk_cell BK121.out 1).trans rfl; have hfz29_0 := blk_frozen BK121.out 0; have hfz29_1 := blk_frozen BK121.out 1) | (go_at_call 15; (with_reducible refine (PA.bulletinlaw15_same.calls k _ _ t108 t111 _ _ t115 t118 true _ ?side1 ?side2 ?side3 ?side4 A18.out).mono ?_); (case side1 => repeat (first | exact (Kd.R_reads' HO110.out).2.2 | (with_reducible refine Kd.C_alloc ?_ _) | (with_reducible refine Kd.C_drewN ?_ _) | (with_reducible refine Kd.C_drew ?_))); (case side2 => exact (Kd.R_reads' HO110.out).2.1); (case side3 => repeat (first | exact (Kd.R_reads' HO117.out).2.2 | (with_reducible refine Kd.C_alloc ?_ _) | (with_reducible refine Kd.C_drewN ?_ _) | (with_reducible refine Kd.C_drew ?_))); (case side4 => exact (Kd.R_reads' HO117.out).2.1); rintro e w30 ⟨rfl, hb⟩; have n0_ := Aside0.mk (Kd.R_below (by (with_reducible repeat (first | apply Kd.R_alloc | apply Kd.R_drewN | apply Kd.R_drew)); exact HO110.out) hb); have n1_ := Aside0.mk (Kd.R_below (by (with_reducible repeat (first | apply Kd.R_alloc | apply Kd.R_drewN | apply Kd.R_drew)); exact HO117.out) hb); have n2_ := Aside0.mk (blk_below (g := gb114) (o := .cells #[.slice Ao9 t108.length co9, .string t111] 25 (0, 0)) (by (with_reducible repeat (first | refine blk_drewN ?_ _ | refine blk_drew ?_ | refine blk_alloc ?_ _)); exact BK114.out) hb); have n3_ := Aside0.mk (blk_below (g := gb121) (o := .cells #[.slice Ao13 t115.length co13, .string t118] 31 (0, 0)) (by (with_reducible repeat (first | refine blk_drewN ?_ _ | refine blk_drew ?_ | refine blk_alloc ?_ _)); exact BK121.out) hb); have n4_ := Aside0.mk (below_step (by repeat (first | (with_reducible first | exact HB.out | apply below_alloc | apply pw_below_drewN | apply below_drew1 | refine below_set ?_ GE114.out | refine below_set ?_ GE121.out) | exact HB.out)) hb); clear HO110; clear HO117; clear BK114; clear BK121; clear HB; have HO110 := n0_; have HO117 := n1_; have BK114 := n2_; have BK121 := n3_; have HB := n4_; clear n0_ n1_ n2_ n3_ n4_; (try clear hb); (try clear hb2); (try clear hk); (try clear hi)))
          go_meet
          case rel => exact ⟨_, (true), (by first | rfl | (simp; done) | (simp [*]; done)), H', ⟨by first | omega | exact Nat.le_refl _⟩, ⟨by (with_reducible repeat (first | apply Kd.R_alloc | apply Kd.R_drewN | apply Kd.R_drew)); exact HO110.out⟩, ⟨by (with_reducible repeat (first | apply Kd.R_alloc | apply Kd.R_drewN | apply Kd.R_drew)); exact HO117.out⟩, ⟨by (with_reducible repeat (first | refine blk_drewN ?_ _ | refine blk_drew ?_ | refine blk_alloc ?_ _)); exact BK114.out⟩, ⟨by (with_reducible repeat (first | refine blk_drewN ?_ _ | refine blk_drew ?_ | refine blk_alloc ?_ _)); exact BK121.out⟩, ⟨by repeat (first | (with_reducible first | exact HB.out | apply below_alloc | apply pw_below_drewN | apply below_drew1 | refine below_set ?_ GE114.out | refine below_set ?_ GE121.out) | exact HB.out)⟩⟩
      · replace c19 := Bool.eq_false_iff.mpr c19
        subst c19
        have H1 : (bulletinlaw15_ArticleParses.j0 k t113 true t108 t111 t115 t118) = some r := by rw [if_neg (show ¬ (false = true) by decide)] at H; exact H
        clear H
        have H := H1
        clear H1
        have H' := Aside0.mk H
        clear H
        go_wp2_with (first | ((with_reducible refine gate_callee (f := 14) rfl ?_); refine goesL_ (some 28) rfl rfl Tryz.func14 (by kernel_rfl) rfl #[] rfl (by (try simp only [List.map_toArray, List.map_cons, List.map_nil]); first | done | rfl | (simp only [List.length_drop, List.length_take]; rfl)) ?_; (with_reducible refine (GV.known.calls  true _ ?side1 A16.out).mono ?_); (case side1 => exact gm_at HGM.out (by repeat (first | (with_reducible first | exact HB.out | apply below_alloc | apply pw_below_drewN | apply below_drew1 | refine below_set ?_ GE114.out | refine below_set ?_ GE121.out) | exact HB.out))); rintro e w31 ⟨rfl, hb⟩; refine ⟨_, rfl, ?_⟩; have n0_ := Aside0.mk (Kd.R_below (by (with_reducible repeat (first | apply Kd.R_alloc | apply Kd.R_drewN | apply Kd.R_drew)); exact (Kd.R_mono (Kd.R_far (p := ⟨gb121, 1, none⟩) (Kd.R_far (p := ⟨gb121, 0, none⟩) (Kd.R_types HO110.out BK121.out (by decide)) (fun _ hk => hk.2) (.slice Ao13 t115.length co13)) (fun _ hk => hk.2) (.string t118)) (fun _ h_ => h_.1))) hb); have n1_ := Aside0.mk (Kd.R_below (by (with_reducible repeat (first | apply Kd.R_alloc | apply Kd.R_drewN | apply Kd.R_drew)); exact (Kd.R_mono (Kd.R_far (p := ⟨gb121, 1, none⟩) (Kd.R_far (p := ⟨gb121, 0, none⟩) (Kd.R_types HO117.out BK121.out (by decide)) (fun _ hk => hk.2) (.slice Ao13 t115.length co13)) (fun _ hk => hk.2) (.string t118)) (fun _ h_ => h_.1))) hb); have n2_ := Aside0.mk (blk_below (g := gb114) (o := .cells #[.slice Ao9 t108.length co9, .string t111] 25 (0, 0)) (by (with_reducible repeat (first | refine blk_drewN ?_ _ | refine blk_drew ?_ | refine blk_alloc ?_ _)); refine blk_far ?_ NB114_121.out _; (with_reducible repeat (first | refine blk_drewN ?_ _ | refine blk_drew ?_ | refine blk_alloc ?_ _)); refine blk_far ?_ NB114_121.out _; (with_reducible repeat (first | refine blk_drewN ?_ _ | refine blk_drew ?_ | refine blk_alloc ?_ _)); exact BK114.out) hb); have n3_ := Aside0.mk (blk_below (g := gb121) (o := .cells #[.slice Ao13 t115.length co13, .string t118] 31 (0, 0)) (by (with_reducible repeat (first | refine blk_drewN ?_ _ | refine blk_drew ?_ | refine blk_alloc ?_ _)); refine blk_put (cs := #[.slice Ao13 t115.length co13, .string (⟨#[]⟩ : ByteArray)]) ?_ 1 _ rfl; (with_reducible repeat (first | refine blk_drewN ?_ _ | refine blk_drew ?_ | refine blk_alloc ?_ _)); refine blk_put (cs := #[.slice none 0 0, .string (⟨#[]⟩ : ByteArray)]) ?_ 0 _ rfl; (with_reducible repeat (first | refine blk_drewN ?_ _ | refine blk_drew ?_ | refine blk_alloc ?_ _)); exact BK121.out) hb); have n4_ := Aside0.mk (below_step (by repeat (first | (with_reducible first | exact HB.out | apply below_alloc | apply pw_below_drewN | apply below_drew1 | refine below_set ?_ GE114.out | refine below_set ?_ GE121.out) | exact HB.out)) hb); clear HO110; clear HO117; clear BK114; clear BK121; clear HB; have HO110 := n0_; have HO117 := n1_; have BK114 := n2_; have BK121 := n3_; have HB := n4_; clear n0_ n1_ n2_ n3_ n4_; (try clear hb); (try clear hb2); (try clear hk); (try clear hi); have hnb32 := NB114_121.out; have hnc32 := NB121_114.out; have hcz33_0 : w31.cell? ⟨gb114, 0, none⟩ = some (.slice Ao9 t108.length co9) := (blk_cell BK114.out 0).trans rfl; have hcz33_1 : w31.cell? ⟨gb114, 1, none⟩ = some (.string t111) := (blk_cell BK114.out 1).trans rfl; have hfz33_0 := blk_frozen BK114.out 0; have hfz33_1 := blk_frozen BK114.out 1; have hcz34_0 : w31.cell? ⟨gb121, 0, none⟩ = some (.slice Ao13 t115.length co13) := (blk_cell BK121.out 0).trans rfl; have hcz34_1 : w31.cell? ⟨gb121, 1, none⟩ = some (.string t118) := (blk_cell BK121.out 1).trans rfl; have hfz34_0 := blk_frozen BK121.out 0; have hfz34_1 := blk_frozen BK121.out 1) | (go_at_call 15; (with_reducible refine (PA.bulletinlaw15_same.calls k _ _ t108 t111 _ _ t115 t118 false _ ?side1 ?side2 ?side3 ?side4 A18.out).mono ?_); (case side1 => repeat (first | exact (Kd.R_reads' HO110.out).2.2 | (with_reducible refine Kd.C_alloc ?_ _) | (with_reducible refine Kd.C_drewN ?_ _) | (with_reducible refine Kd.C_drew ?_))); (case side2 => exact (Kd.R_reads' HO110.out).2.1); (case side3 => repeat (first | exact (Kd.R_reads' HO117.out).2.2 | (with_reducible refine Kd.C_alloc ?_ _) | (with_reducible refine Kd.C_drewN ?_ _) | (with_reducible refine Kd.C_drew ?_))); (case side4 => exact (Kd.R_reads' HO117.out).2.1); rintro e w35 ⟨rfl, hb⟩; have n0_ := Aside0.mk (Kd.R_below (by (with_reducible repeat (first | apply Kd.R_alloc | apply Kd.R_drewN | apply Kd.R_drew)); exact HO110.out) hb); have n1_ := Aside0.mk (Kd.R_below (by (with_reducible repeat (first | apply Kd.R_alloc | apply Kd.R_drewN | apply Kd.R_drew)); exact HO117.out) hb); have n2_ := Aside0.mk (blk_below (g := gb114) (o := .cells #[.slice Ao9 t108.length co9, .string t111] 25 (0, 0)) (by (with_reducible repeat (first | refine blk_drewN ?_ _ | refine blk_drew ?_ | refine blk_alloc ?_ _)); exact BK114.out) hb); have n3_ := Aside0.mk (blk_below (g := gb121) (o := .cells #[.slice Ao13 t115.length co13, .string t118] 31 (0, 0)) (by (with_reducible repeat (first | refine blk_drewN ?_ _ | refine blk_drew ?_ | refine blk_alloc ?_ _)); exact BK121.out) hb); have n4_ := Aside0.mk (below_step (by repeat (first | (with_reducible first | exact HB.out | apply below_alloc | apply pw_below_drewN | apply below_drew1 | refine below_set ?_ GE114.out | refine below_set ?_ GE121.out) | exact HB.out)) hb); clear HO110; clear HO117; clear BK114; clear BK121; clear HB; have HO110 := n0_; have HO117 := n1_; have BK114 := n2_; have BK121 := n3_; have HB := n4_; clear n0_ n1_ n2_ n3_ n4_; (try clear hb); (try clear hb2); (try clear hk); (try clear hi)))
        go_meet
        case rel => exact ⟨_, (true), (by first | rfl | (simp; done) | (simp [*]; done)), H', ⟨by first | omega | exact Nat.le_refl _⟩, ⟨by (with_reducible repeat (first | apply Kd.R_alloc | apply Kd.R_drewN | apply Kd.R_drew)); exact HO110.out⟩, ⟨by (with_reducible repeat (first | apply Kd.R_alloc | apply Kd.R_drewN | apply Kd.R_drew)); exact HO117.out⟩, ⟨by (with_reducible repeat (first | refine blk_drewN ?_ _ | refine blk_drew ?_ | refine blk_alloc ?_ _)); exact BK114.out⟩, ⟨by (with_reducible repeat (first | refine blk_drewN ?_ _ | refine blk_drew ?_ | refine blk_alloc ?_ _)); exact BK121.out⟩, ⟨by repeat (first | (with_reducible first | exact HB.out | apply below_alloc | apply pw_below_drewN | apply below_drew1 | refine below_set ?_ GE114.out | refine below_set ?_ GE121.out) | exact HB.out)⟩⟩
    · replace c17 := Bool.eq_false_iff.mpr c17
      subst c17
      have H1 : (bulletinlaw15_ArticleParses.j0 k t113 true t108 t111 t115 t118) = some r := by rw [if_neg (show ¬ (false = true) by decide)] at H; exact H
      clear H
      have H := H1
      clear H1
      have H' := Aside0.mk H
      clear H
      go_wp2_with (first | ((with_reducible refine gate_callee (f := 14) rfl ?_); refine goesL_ (some 28) rfl rfl Tryz.func14 (by kernel_rfl) rfl #[] rfl (by (try simp only [List.map_toArray, List.map_cons, List.map_nil]); first | done | rfl | (simp only [List.length_drop, List.length_take]; rfl)) ?_; (with_reducible refine (GV.known.calls  false _ ?side1 A16.out).mono ?_); (case side1 => exact gm_at HGM.out (by repeat (first | (with_reducible first | exact HB.out | apply below_alloc | apply pw_below_drewN | apply below_drew1 | refine below_set ?_ GE114.out | refine below_set ?_ GE121.out) | exact HB.out))); rintro e w36 ⟨rfl, hb⟩; refine ⟨_, rfl, ?_⟩; have n0_ := Aside0.mk (Kd.R_below (by (with_reducible repeat (first | apply Kd.R_alloc | apply Kd.R_drewN | apply Kd.R_drew)); exact (Kd.R_mono (Kd.R_far (p := ⟨gb121, 1, none⟩) (Kd.R_far (p := ⟨gb121, 0, none⟩) (Kd.R_types HO110.out BK121.out (by decide)) (fun _ hk => hk.2) (.slice Ao13 t115.length co13)) (fun _ hk => hk.2) (.string t118)) (fun _ h_ => h_.1))) hb); have n1_ := Aside0.mk (Kd.R_below (by (with_reducible repeat (first | apply Kd.R_alloc | apply Kd.R_drewN | apply Kd.R_drew)); exact (Kd.R_mono (Kd.R_far (p := ⟨gb121, 1, none⟩) (Kd.R_far (p := ⟨gb121, 0, none⟩) (Kd.R_types HO117.out BK121.out (by decide)) (fun _ hk => hk.2) (.slice Ao13 t115.length co13)) (fun _ hk => hk.2) (.string t118)) (fun _ h_ => h_.1))) hb); have n2_ := Aside0.mk (blk_below (g := gb114) (o := .cells #[.slice Ao9 t108.length co9, .string t111] 25 (0, 0)) (by (with_reducible repeat (first | refine blk_drewN ?_ _ | refine blk_drew ?_ | refine blk_alloc ?_ _)); refine blk_far ?_ NB114_121.out _; (with_reducible repeat (first | refine blk_drewN ?_ _ | refine blk_drew ?_ | refine blk_alloc ?_ _)); refine blk_far ?_ NB114_121.out _; (with_reducible repeat (first | refine blk_drewN ?_ _ | refine blk_drew ?_ | refine blk_alloc ?_ _)); exact BK114.out) hb); have n3_ := Aside0.mk (blk_below (g := gb121) (o := .cells #[.slice Ao13 t115.length co13, .string t118] 31 (0, 0)) (by (with_reducible repeat (first | refine blk_drewN ?_ _ | refine blk_drew ?_ | refine blk_alloc ?_ _)); refine blk_put (cs := #[.slice Ao13 t115.length co13, .string (⟨#[]⟩ : ByteArray)]) ?_ 1 _ rfl; (with_reducible repeat (first | refine blk_drewN ?_ _ | refine blk_drew ?_ | refine blk_alloc ?_ _)); refine blk_put (cs := #[.slice none 0 0, .string (⟨#[]⟩ : ByteArray)]) ?_ 0 _ rfl; (with_reducible repeat (first | refine blk_drewN ?_ _ | refine blk_drew ?_ | refine blk_alloc ?_ _)); exact BK121.out) hb); have n4_ := Aside0.mk (below_step (by repeat (first | (with_reducible first | exact HB.out | apply below_alloc | apply pw_below_drewN | apply below_drew1 | refine below_set ?_ GE114.out | refine below_set ?_ GE121.out) | exact HB.out)) hb); clear HO110; clear HO117; clear BK114; clear BK121; clear HB; have HO110 := n0_; have HO117 := n1_; have BK114 := n2_; have BK121 := n3_; have HB := n4_; clear n0_ n1_ n2_ n3_ n4_; (try clear hb); (try clear hb2); (try clear hk); (try clear hi)))
      go_meet
      case rel => exact ⟨_, (true), (by first | rfl | (simp; done) | (simp [*]; done)), H', ⟨by first | omega | exact Nat.le_refl _⟩, ⟨by (with_reducible repeat (first | apply Kd.R_alloc | apply Kd.R_drewN | apply Kd.R_drew)); exact HO110.out⟩, ⟨by (with_reducible repeat (first | apply Kd.R_alloc | apply Kd.R_drewN | apply Kd.R_drew)); exact HO117.out⟩, ⟨by (with_reducible repeat (first | refine blk_drewN ?_ _ | refine blk_drew ?_ | refine blk_alloc ?_ _)); exact BK114.out⟩, ⟨by (with_reducible repeat (first | refine blk_drewN ?_ _ | refine blk_drew ?_ | refine blk_alloc ?_ _)); exact BK121.out⟩, ⟨by repeat (first | (with_reducible first | exact HB.out | apply below_alloc | apply pw_below_drewN | apply below_drew1 | refine below_set ?_ GE114.out | refine below_set ?_ GE121.out) | exact HB.out)⟩⟩
  case rest =>
    clear HC5
    try clear c1
    try clear c2
    try clear p2
    try clear c3
    try clear c11
    try clear c12
    try clear c13
    try clear c14
    try clear c17
    try clear c19
    try clear c20
    try clear c20b0
    try clear c20b1
    try clear c22
    try clear c27
    try clear c32
    try clear hcz10_0
    try clear hcz10_1
    try clear hcz15_0
    try clear hcz15_1
    try clear hcz23_0
    try clear hcz23_1
    try clear hcz24_0
    try clear hcz24_1
    try clear hcz28_0
    try clear hcz28_1
    try clear hcz29_0
    try clear hcz29_1
    try clear hcz33_0
    try clear hcz33_1
    try clear hcz34_0
    try clear hcz34_1
    try clear hfz10_0
    try clear hfz10_1
    try clear hfz15_0
    try clear hfz15_1
    try clear hfz23_0
    try clear hfz23_1
    try clear hfz24_0
    try clear hfz24_1
    try clear hfz28_0
    try clear hfz28_1
    try clear hfz29_0
    try clear hfz29_1
    try clear hfz33_0
    try clear hfz33_1
    try clear hfz34_0
    try clear hfz34_1
    obtain ⟨kq, x45_4, rfl, HA, HJ4, HO_115000, HO_122000, BK114, BK121, HB⟩ := hcut
    cases kq with
    | zero => exact absurd HA.out (by simp [bulletinlaw15_ArticleParses.j0])
    | succ kj4 =>
      have H := HA.out
      clear HA
      simp only [bulletinlaw15_ArticleParses.j0] at H
      by_cases c37 : x45_4 = true
      · subst c37
        have H1 : (some false) = some r := by rw [if_pos rfl] at H; exact H
        clear H
        have H := H1
        clear H1
        obtain rfl := Option.some.inj H
        go_wp2
        go_ret
        exact ⟨by first | rfl | (simp [errW_none, errW_some] <;> rfl) | (simp [*, errW_none, errW_some] <;> rfl), by repeat (first | (with_reducible first | exact HB.out | apply below_alloc | apply pw_below_drewN | apply below_drew1 | refine below_set ?_ GE114.out | refine below_set ?_ GE121.out) | exact HB.out)⟩
      · replace c37 := Bool.eq_false_iff.mpr c37
        subst c37
        have H1 : (if t113 = 0 then ((PC.article_Print.f kj4 t108 t111).bind fun bt124 => ((GV.AParse.f kj4 bt124.1).bind fun bt126 => (if bt124.2 = 5 then (some true) else (if bt124.2 = 0 then (if bt126.2.2.2 = 0 then ((PA.bulletinlaw15_same.f kj4 bt126.1 bt126.2.1 t115 t118).bind fun t133 => (some t133)) else (some false)) else (some false))))) else (some true)) = some r := by rw [if_neg (show ¬ (false = true) by decide)] at H; exact H
        clear H
        have H := H1
        clear H1
        by_cases c38 : t113 = 0
        · rw [if_pos c38] at H
          have c38b0 : (t113 == 0) = true := beq_iff_eq.mpr c38
          have c38b1 : (t113 != 0) = false := bne_eq_false_iff_eq.mpr c38
          clear c38
          replace H := Option.bind_eq_some_iff.mp H
          obtain ⟨⟨t124, t125⟩, A390, H⟩ := H
          replace H : ((GV.AParse.f kj4 t124).bind fun bt126 => (if t125 = 5 then (some true) else (if t125 = 0 then (if bt126.2.2.2 = 0 then ((PA.bulletinlaw15_same.f kj4 bt126.1 bt126.2.1 t115 t118).bind fun t133 => (some t133)) else (some false)) else (some false)))) = some r := H
          have A39 := Aside0.mk A390
          clear A390
          replace H := Option.bind_eq_some_iff.mp H
          obtain ⟨⟨t126, t129, t130, t131⟩, A400, H⟩ := H
          replace H : (if t125 = 5 then (some true) else (if t125 = 0 then (if t131 = 0 then ((PA.bulletinlaw15_same.f kj4 t126 t129 t115 t118).bind fun t133 => (some t133)) else (some false)) else (some false))) = some r := H
          have A40 := Aside0.mk A400
          clear A400
          by_cases c41 : t125 = 5
          · rw [if_pos c41] at H
            have c41b0 : (t125 == 5) = true := beq_iff_eq.mpr c41
            have c41b1 : (t125 != 5) = false := bne_eq_false_iff_eq.mpr c41
            clear c41
            obtain rfl := Option.some.inj H
            have hnb42 := NB114_121.out
            have hnc42 := NB121_114.out
            have hcz43_0 : wc.cell? ⟨gb114, 0, none⟩ = some (.slice Ao9 t108.length co9) := (blk_cell BK114.out 0).trans rfl
            have hcz43_1 : wc.cell? ⟨gb114, 1, none⟩ = some (.string t111) := (blk_cell BK114.out 1).trans rfl
            have hfz43_0 := blk_frozen BK114.out 0
            have hfz43_1 := blk_frozen BK114.out 1
            go_wp2_with (first | ((with_reducible refine gate_callee (f := 16) rfl ?_); refine goesL_ (some 50) rfl rfl Tryz.func16 (by kernel_rfl) rfl #[.agg #[.slice Ao9 t108.length co9, .string t111]] rfl (by (try simp only [List.map_toArray, List.map_cons, List.map_nil]); first | done | rfl | (simp only [List.length_drop, List.length_take]; rfl)) ?_; (with_reducible refine (PC.article_Print.calls kj4 _ _ t108 t111 t124 t125 _ ?side1 ?side2 A39.out).mono ?_); (case side1 => repeat (first | exact (Kd.R_reads' HO_115000.out).2.2 | (with_reducible refine Kd.C_alloc ?_ _) | (with_reducible refine Kd.C_drewN ?_ _) | (with_reducible refine Kd.C_drew ?_))); (case side2 => exact (Kd.R_reads' HO_115000.out).2.1); rintro e w44 ⟨rfl, hb⟩; refine ⟨_, rfl, ?_⟩; have n0_ := Aside0.mk (Kd.R_below (by (with_reducible repeat (first | apply Kd.R_alloc | apply Kd.R_drewN | apply Kd.R_drew)); exact HO_115000.out) hb); have n1_ := Aside0.mk (Kd.R_below (by (with_reducible repeat (first | apply Kd.R_alloc | apply Kd.R_drewN | apply Kd.R_drew)); exact HO_122000.out) hb); have n2_ := Aside0.mk (blk_below (g := gb114) (o := .cells #[.slice Ao9 t108.length co9, .string t111] 25 (0, 0)) (by (with_reducible repeat (first | refine blk_drewN ?_ _ | refine blk_drew ?_ | refine blk_alloc ?_ _)); exact BK114.out) hb); have n3_ := Aside0.mk (blk_below (g := gb121) (o := .cells #[.slice Ao13 t115.length co13, .string t118] 31 (0, 0)) (by (with_reducible repeat (first | refine blk_drewN ?_ _ | refine blk_drew ?_ | refine blk_alloc ?_ _)); exact BK121.out) hb); have n4_ := Aside0.mk (below_step (by repeat (first | (with_reducible first | exact HB.out | apply below_alloc | apply pw_below_drewN | apply below_drew1 | refine below_set ?_ GE114.out | refine below_set ?_ GE121.out) | exact HB.out)) hb); clear HO_115000; clear HO_122000; clear BK114; clear BK121; clear HB; have HO_115000 := n0_; have HO_122000 := n1_; have BK114 := n2_; have BK121 := n3_; have HB := n4_; clear n0_ n1_ n2_ n3_ n4_; (try clear hb); (try clear hb2); (try clear hk); (try clear hi)) | ((with_reducible refine gate_callee (f := 12) rfl ?_); refine goesL_ (some 55) rfl rfl Tryz.func12 (by kernel_rfl) rfl #[.string t124] rfl (by (try simp only [List.map_toArray, List.map_cons, List.map_nil]); first | done | rfl | (simp only [List.length_drop, List.length_take]; rfl)) ?_; (with_reducible refine (GV.AParse.calls kj4 t124 t126 t129 t130 t131 _ ?side1 A40.out).mono ?_); (case side1 => exact gm_at HGM.out (by repeat (first | (with_reducible first | exact HB.out | apply below_alloc | apply pw_below_drewN | apply below_drew1 | refine below_set ?_ GE114.out | refine below_set ?_ GE121.out) | exact HB.out))); rintro e w45 ⟨v127, rfl, ho0, hb⟩; refine ⟨_, rfl, ?_⟩; have n0_ := Aside0.mk (Kd.R_elder' (by (with_reducible repeat (first | apply Kd.R_alloc | apply Kd.R_drewN | apply Kd.R_drew)); exact HO_115000.out) (Kd.R_base ho0) hb); have n1_ := Aside0.mk (Kd.R_below (by (with_reducible repeat (first | apply Kd.R_alloc | apply Kd.R_drewN | apply Kd.R_drew)); exact HO_122000.out) hb); have n2_ := Aside0.mk (Kd.R_lower (Kd.R_new' ho0 (Kd.R_lt (by (with_reducible repeat (first | apply Kd.R_alloc | apply Kd.R_drewN | apply Kd.R_drew)); exact HO_115000.out))) (below_size (by repeat (first | (with_reducible first | exact HB.out | apply below_alloc | apply pw_below_drewN | apply below_drew1 | refine below_set ?_ GE114.out | refine below_set ?_ GE121.out) | exact HB.out)))); have n3_ := Aside0.mk (blk_below (g := gb114) (o := .cells #[.slice Ao9 t108.length co9, .string t111] 25 (0, 0)) (by (with_reducible repeat (first | refine blk_drewN ?_ _ | refine blk_drew ?_ | refine blk_alloc ?_ _)); exact BK114.out) hb); have n4_ := Aside0.mk (blk_below (g := gb121) (o := .cells #[.slice Ao13 t115.length co13, .string t118] 31 (0, 0)) (by (with_reducible repeat (first | refine blk_drewN ?_ _ | refine blk_drew ?_ | refine blk_alloc ?_ _)); exact BK121.out) hb); have n5_ := Aside0.mk (below_step (by repeat (first | (with_reducible first | exact HB.out | apply below_alloc | apply pw_below_drewN | apply below_drew1 | refine below_set ?_ GE114.out | refine below_set ?_ GE121.out) | exact HB.out)) hb); clear HO_115000; clear HO_122000; clear BK114; clear BK121; clear HB; have HO_115000 := n0_; have HO_122000 := n1_; have HO128 := n2_; have BK114 := n3_; have BK121 := n4_; have HB := n5_; clear n0_ n1_ n2_ n3_ n4_ n5_; (try clear hb); (try clear hb2); (try clear hk); (try clear hi); (try clear ho0)) | ((with_reducible refine gate_dst (N := 11) rfl ?_); refine box_event ?hg (N := 11) ?hd (cs := #[.slice none 0 0, .string (⟨#[]⟩ : ByteArray)]) (t := 25) ?hr ?_; (case hd => rfl); (case hg => rfl); (case hr => first | (go_simp; done) | (go_simp; rfl)); intro gb132 hg w46 hbox hb; have n0_ := Aside0.mk (Kd.R_below (by (with_reducible repeat (first | apply Kd.R_alloc | apply Kd.R_drewN | apply Kd.R_drew)); exact HO_115000.out) hb); have n1_ := Aside0.mk (Kd.R_below (by (with_reducible repeat (first | apply Kd.R_alloc | apply Kd.R_drewN | apply Kd.R_drew)); exact HO_122000.out) hb); have n2_ := Aside0.mk (Kd.R_below (by (with_reducible repeat (first | apply Kd.R_alloc | apply Kd.R_drewN | apply Kd.R_drew)); exact HO128.out) hb); have n3_ := Aside0.mk (blk_below (g := gb114) (o := .cells #[.slice Ao9 t108.length co9, .string t111] 25 (0, 0)) (by (with_reducible repeat (first | refine blk_drewN ?_ _ | refine blk_drew ?_ | refine blk_alloc ?_ _)); exact BK114.out) hb); have n4_ := Aside0.mk (blk_below (g := gb121) (o := .cells #[.slice Ao13 t115.length co13, .string t118] 31 (0, 0)) (by (with_reducible repeat (first | refine blk_drewN ?_ _ | refine blk_drew ?_ | refine blk_alloc ?_ _)); exact BK121.out) hb); have n5_ := Aside0.mk (below_step (by repeat (first | (with_reducible first | exact HB.out | apply below_alloc | apply pw_below_drewN | apply below_drew1 | refine below_set ?_ GE114.out | refine below_set ?_ GE121.out) | exact HB.out)) hb); have n6_ := Aside0.mk (hbox); have n7_ := Aside0.mk ((by rw [hg]; exact (below_size (by repeat (first | (with_reducible first | exact HB.out | apply below_alloc | apply pw_below_drewN | apply below_drew1 | refine below_set ?_ GE114.out | refine below_set ?_ GE121.out) | exact HB.out))) : w.heap.size ≤ gb132)); have n8_ := Aside0.mk ((by rw [hg]; exact (below_size (by repeat (first | (with_reducible first | exact HB.out | apply below_alloc | apply pw_below_drewN | apply below_drew1 | refine below_set ?_ GE114.out | refine below_set ?_ GE121.out) | exact HB.out))) : w.heap.size ≤ gb132)); have n9_ := Aside0.mk ((by rw [hg]; exact Nat.ne_of_lt (blk_lt (g := gb114) (o := .cells #[.slice Ao9 t108.length co9, .string t111] 25 (0, 0)) (by (with_reducible repeat (first | refine blk_drewN ?_ _ | refine blk_drew ?_ | refine blk_alloc ?_ _)); exact BK114.out)) : gb114 ≠ gb132)); have n10_ := Aside0.mk ((by rw [hg]; exact Nat.ne_of_gt (blk_lt (g := gb114) (o := .cells #[.slice Ao9 t108.length co9, .string t111] 25 (0, 0)) (by (with_reducible repeat (first | refine blk_drewN ?_ _ | refine blk_drew ?_ | refine blk_alloc ?_ _)); exact BK114.out)) : gb132 ≠ gb114)); have n11_ := Aside0.mk ((by rw [hg]; exact Nat.ne_of_lt (blk_lt (g := gb121) (o := .cells #[.slice Ao13 t115.length co13, .string t118] 31 (0, 0)) (by (with_reducible repeat (first | refine blk_drewN ?_ _ | refine blk_drew ?_ | refine blk_alloc ?_ _)); exact BK121.out)) : gb121 ≠ gb132)); have n12_ := Aside0.mk ((by rw [hg]; exact Nat.ne_of_gt (blk_lt (g := gb121) (o := .cells #[.slice Ao13 t115.length co13, .string t118] 31 (0, 0)) (by (with_reducible repeat (first | refine blk_drewN ?_ _ | refine blk_drew ?_ | refine blk_alloc ?_ _)); exact BK121.out)) : gb132 ≠ gb121)); clear HO_115000; clear HO_122000; clear HO128; clear BK114; clear BK121; clear HB; have HO_115000 := n0_; have HO_122000 := n1_; have HO128 := n2_; have BK114 := n3_; have BK121 := n4_; have HB := n5_; have BK132 := n6_; have GW132 := n7_; have GE132 := n8_; have NB114_132 := n9_; have NB132_114 := n10_; have NB121_132 := n11_; have NB132_121 := n12_; clear n0_ n1_ n2_ n3_ n4_ n5_ n6_ n7_ n8_ n9_ n10_ n11_ n12_; clear hb hbox hg; obtain ⟨Ao47, co47, eo47⟩ := Kd.R_slice HO128.out; subst eo47; have hnb48 := NB132_114.out; have hnc48 := NB114_132.out; have hnb49 := NB132_121.out; have hnc49 := NB121_132.out; have hcz50_0 : w46.cell? ⟨gb132, 0, none⟩ = some (.slice none 0 0) := (blk_cell BK132.out 0).trans rfl; have hcz50_1 : w46.cell? ⟨gb132, 1, none⟩ = some (.string (⟨#[]⟩ : ByteArray)) := (blk_cell BK132.out 1).trans rfl; have hfz50_0 := blk_frozen BK132.out 0; have hfz50_1 := blk_frozen BK132.out 1))
            go_ret
            exact ⟨by first | rfl | (simp [errW_none, errW_some] <;> rfl) | (simp [*, errW_none, errW_some] <;> rfl), by repeat (first | (with_reducible first | exact HB.out | apply below_alloc | apply pw_below_drewN | apply below_drew1 | refine below_set ?_ GE114.out | refine below_set ?_ GE121.out | refine below_set ?_ GE132.out) | exact HB.out)⟩
          · rw [if_neg c41] at H
            have c41b0 : (t125 == 5) = false := beq_eq_false_iff_ne.mpr c41
            have c41b1 : (t125 != 5) = true := bne_iff_ne.mpr c41
            by_cases c51 : t125 = 0
            · rw [if_pos c51] at H
              have c51b0 : (t125 == 0) = true := beq_iff_eq.mpr c51
              have c51b1 : (t125 != 0) = false := bne_eq_false_iff_eq.mpr c51
              clear c51
              by_cases c52 : t131 = 0
              · rw [if_pos c52] at H
                have c52b0 : (t131 == 0) = true := beq_iff_eq.mpr c52
                have c52b1 : (t131 != 0) = false := bne_eq_false_iff_eq.mpr c52
                clear c52
                replace H := Option.bind_eq_some_iff.mp H
                obtain ⟨t133, A530, H⟩ := H
                replace H : (some t133) = some r := H
                have A53 := Aside0.mk A530
                clear A530
                obtain rfl := Option.some.inj H
                have hnb54 := NB114_121.out
                have hnc54 := NB121_114.out
                have hcz55_0 : wc.cell? ⟨gb114, 0, none⟩ = some (.slice Ao9 t108.length co9) := (blk_cell BK114.out 0).trans rfl
                have hcz55_1 : wc.cell? ⟨gb114, 1, none⟩ = some (.string t111) := (blk_cell BK114.out 1).trans rfl
                have hfz55_0 := blk_frozen BK114.out 0
                have hfz55_1 := blk_frozen BK114.out 1
                go_wp2_with (first | ((with_reducible refine gate_callee (f := 16) rfl ?_); refine goesL_ (some 50) rfl rfl Tryz.func16 (by kernel_rfl) rfl #[.agg #[.slice Ao9 t108.length co9, .string t111]] rfl (by (try simp only [List.map_toArray, List.map_cons, List.map_nil]); first | done | rfl | (simp only [List.length_drop, List.length_take]; rfl)) ?_; (with_reducible refine (PC.article_Print.calls kj4 _ _ t108 t111 t124 t125 _ ?side1 ?side2 A39.out).mono ?_); (case side1 => repeat (first | exact (Kd.R_reads' HO_115000.out).2.2 | (with_reducible refine Kd.C_alloc ?_ _) | (with_reducible refine Kd.C_drewN ?_ _) | (with_reducible refine Kd.C_drew ?_))); (case side2 => exact (Kd.R_reads' HO_115000.out).2.1); rintro e w56 ⟨rfl, hb⟩; refine ⟨_, rfl, ?_⟩; have n0_ := Aside0.mk (Kd.R_below (by (with_reducible repeat (first | apply Kd.R_alloc | apply Kd.R_drewN | apply Kd.R_drew)); exact HO_115000.out) hb); have n1_ := Aside0.mk (Kd.R_below (by (with_reducible repeat (first | apply Kd.R_alloc | apply Kd.R_drewN | apply Kd.R_drew)); exact HO_122000.out) hb); have n2_ := Aside0.mk (blk_below (g := gb114) (o := .cells #[.slice Ao9 t108.length co9, .string t111] 25 (0, 0)) (by (with_reducible repeat (first | refine blk_drewN ?_ _ | refine blk_drew ?_ | refine blk_alloc ?_ _)); exact BK114.out) hb); have n3_ := Aside0.mk (blk_below (g := gb121) (o := .cells #[.slice Ao13 t115.length co13, .string t118] 31 (0, 0)) (by (with_reducible repeat (first | refine blk_drewN ?_ _ | refine blk_drew ?_ | refine blk_alloc ?_ _)); exact BK121.out) hb); have n4_ := Aside0.mk (below_step (by repeat (first | (with_reducible first | exact HB.out | apply below_alloc | apply pw_below_drewN | apply below_drew1 | refine below_set ?_ GE114.out | refine below_set ?_ GE121.out) | exact HB.out)) hb); clear HO_115000; clear HO_122000; clear BK114; clear BK121; clear HB; have HO_115000 := n0_; have HO_122000 := n1_; have BK114 := n2_; have BK121 := n3_; have HB := n4_; clear n0_ n1_ n2_ n3_ n4_; (try clear hb); (try clear hb2); (try clear hk); (try clear hi)) | ((with_reducible refine gate_callee (f := 12) rfl ?_); refine goesL_ (some 55) rfl rfl Tryz.func12 (by kernel_rfl) rfl #[.string t124] rfl (by (try simp only [List.map_toArray, List.map_cons, List.map_nil]); first | done | rfl | (simp only [List.length_drop, List.length_take]; rfl)) ?_; (with_reducible refine (GV.AParse.calls kj4 t124 t126 t129 t130 t131 _ ?side1 A40.out).mono ?_); (case side1 => exact gm_at HGM.out (by repeat (first | (with_reducible first | exact HB.out | apply below_alloc | apply pw_below_drewN | apply below_drew1 | refine below_set ?_ GE114.out | refine below_set ?_ GE121.out) | exact HB.out))); rintro e w57 ⟨v127, rfl, ho0, hb⟩; refine ⟨_, rfl, ?_⟩; have n0_ := Aside0.mk (Kd.R_elder' (by (with_reducible repeat (first | apply Kd.R_alloc | apply Kd.R_drewN | apply Kd.R_drew)); exact HO_115000.out) (Kd.R_base ho0) hb); have n1_ := Aside0.mk (Kd.R_below (by (with_reducible repeat (first | apply Kd.R_alloc | apply Kd.R_drewN | apply Kd.R_drew)); exact HO_122000.out) hb); have n2_ := Aside0.mk (Kd.R_lower (Kd.R_new' ho0 (Kd.R_lt (by (with_reducible repeat (first | apply Kd.R_alloc | apply Kd.R_drewN | apply Kd.R_drew)); exact HO_115000.out))) (below_size (by repeat (first | (with_reducible first | exact HB.out | apply below_alloc | apply pw_below_drewN | apply below_drew1 | refine below_set ?_ GE114.out | refine below_set ?_ GE121.out) | exact HB.out)))); have n3_ := Aside0.mk (blk_below (g := gb114) (o := .cells #[.slice Ao9 t108.length co9, .string t111] 25 (0, 0)) (by (with_reducible repeat (first | refine blk_drewN ?_ _ | refine blk_drew ?_ | refine blk_alloc ?_ _)); exact BK114.out) hb); have n4_ := Aside0.mk (blk_below (g := gb121) (o := .cells #[.slice Ao13 t115.length co13, .string t118] 31 (0, 0)) (by (with_reducible repeat (first | refine blk_drewN ?_ _ | refine blk_drew ?_ | refine blk_alloc ?_ _)); exact BK121.out) hb); have n5_ := Aside0.mk (below_step (by repeat (first | (with_reducible first | exact HB.out | apply below_alloc | apply pw_below_drewN | apply below_drew1 | refine below_set ?_ GE114.out | refine below_set ?_ GE121.out) | exact HB.out)) hb); clear HO_115000; clear HO_122000; clear BK114; clear BK121; clear HB; have HO_115000 := n0_; have HO_122000 := n1_; have HO128 := n2_; have BK114 := n3_; have BK121 := n4_; have HB := n5_; clear n0_ n1_ n2_ n3_ n4_ n5_; (try clear hb); (try clear hb2); (try clear hk); (try clear hi); (try clear ho0)) | ((with_reducible refine gate_dst (N := 11) rfl ?_); refine box_event ?hg (N := 11) ?hd (cs := #[.slice none 0 0, .string (⟨#[]⟩ : ByteArray)]) (t := 25) ?hr ?_; (case hd => rfl); (case hg => rfl); (case hr => first | (go_simp; done) | (go_simp; rfl)); intro gb132 hg w58 hbox hb; have n0_ := Aside0.mk (Kd.R_below (by (with_reducible repeat (first | apply Kd.R_alloc | apply Kd.R_drewN | apply Kd.R_drew)); exact HO_115000.out) hb); have n1_ := Aside0.mk (Kd.R_below (by (with_reducible repeat (first | apply Kd.R_alloc | apply Kd.R_drewN | apply Kd.R_drew)); exact HO_122000.out) hb); have n2_ := Aside0.mk (Kd.R_below (by (with_reducible repeat (first | apply Kd.R_alloc | apply Kd.R_drewN | apply Kd.R_drew)); exact HO128.out) hb); have n3_ := Aside0.mk (blk_below (g := gb114) (o := .cells #[.slice Ao9 t108.length co9, .string t111] 25 (0, 0)) (by (with_reducible repeat (first | refine blk_drewN ?_ _ | refine blk_drew ?_ | refine blk_alloc ?_ _)); exact BK114.out) hb); have n4_ := Aside0.mk (blk_below (g := gb121) (o := .cells #[.slice Ao13 t115.length co13, .string t118] 31 (0, 0)) (by (with_reducible repeat (first | refine blk_drewN ?_ _ | refine blk_drew ?_ | refine blk_alloc ?_ _)); exact BK121.out) hb); have n5_ := Aside0.mk (below_step (by repeat (first | (with_reducible first | exact HB.out | apply below_alloc | apply pw_below_drewN | apply below_drew1 | refine below_set ?_ GE114.out | refine below_set ?_ GE121.out) | exact HB.out)) hb); have n6_ := Aside0.mk (hbox); have n7_ := Aside0.mk ((by rw [hg]; exact (below_size (by repeat (first | (with_reducible first | exact HB.out | apply below_alloc | apply pw_below_drewN | apply below_drew1 | refine below_set ?_ GE114.out | refine below_set ?_ GE121.out) | exact HB.out))) : w.heap.size ≤ gb132)); have n8_ := Aside0.mk ((by rw [hg]; exact (below_size (by repeat (first | (with_reducible first | exact HB.out | apply below_alloc | apply pw_below_drewN | apply below_drew1 | refine below_set ?_ GE114.out | refine below_set ?_ GE121.out) | exact HB.out))) : w.heap.size ≤ gb132)); have n9_ := Aside0.mk ((by rw [hg]; exact Nat.ne_of_lt (blk_lt (g := gb114) (o := .cells #[.slice Ao9 t108.length co9, .string t111] 25 (0, 0)) (by (with_reducible repeat (first | refine blk_drewN ?_ _ | refine blk_drew ?_ | refine blk_alloc ?_ _)); exact BK114.out)) : gb114 ≠ gb132)); have n10_ := Aside0.mk ((by rw [hg]; exact Nat.ne_of_gt (blk_lt (g := gb114) (o := .cells #[.slice Ao9 t108.length co9, .string t111] 25 (0, 0)) (by (with_reducible repeat (first | refine blk_drewN ?_ _ | refine blk_drew ?_ | refine blk_alloc ?_ _)); exact BK114.out)) : gb132 ≠ gb114)); have n11_ := Aside0.mk ((by rw [hg]; exact Nat.ne_of_lt (blk_lt (g := gb121) (o := .cells #[.slice Ao13 t115.length co13, .string t118] 31 (0, 0)) (by (with_reducible repeat (first | refine blk_drewN ?_ _ | refine blk_drew ?_ | refine blk_alloc ?_ _)); exact BK121.out)) : gb121 ≠ gb132)); have n12_ := Aside0.mk ((by rw [hg]; exact Nat.ne_of_gt (blk_lt (g := gb121) (o := .cells #[.slice Ao13 t115.length co13, .string t118] 31 (0, 0)) (by (with_reducible repeat (first | refine blk_drewN ?_ _ | refine blk_drew ?_ | refine blk_alloc ?_ _)); exact BK121.out)) : gb132 ≠ gb121)); clear HO_115000; clear HO_122000; clear HO128; clear BK114; clear BK121; clear HB; have HO_115000 := n0_; have HO_122000 := n1_; have HO128 := n2_; have BK114 := n3_; have BK121 := n4_; have HB := n5_; have BK132 := n6_; have GW132 := n7_; have GE132 := n8_; have NB114_132 := n9_; have NB132_114 := n10_; have NB121_132 := n11_; have NB132_121 := n12_; clear n0_ n1_ n2_ n3_ n4_ n5_ n6_ n7_ n8_ n9_ n10_ n11_ n12_; clear hb hbox hg; obtain ⟨Ao59, co59, eo59⟩ := Kd.R_slice HO128.out; subst eo59; have hnb60 := NB132_114.out; have hnc60 := NB114_132.out; have hnb61 := NB132_121.out; have hnc61 := NB121_132.out; have hcz62_0 : w58.cell? ⟨gb132, 0, none⟩ = some (.slice none 0 0) := (blk_cell BK132.out 0).trans rfl; have hcz62_1 : w58.cell? ⟨gb132, 1, none⟩ = some (.string (⟨#[]⟩ : ByteArray)) := (blk_cell BK132.out 1).trans rfl; have hfz62_0 := blk_frozen BK132.out 0; have hfz62_1 := blk_frozen BK132.out 1; have hcz63_0 : w58.cell? ⟨gb121, 0, none⟩ = some (.slice Ao13 t115.length co13) := (blk_cell BK121.out 0).trans rfl; have hcz63_1 : w58.cell? ⟨gb121, 1, none⟩ = some (.string t118) := (blk_cell BK121.out 1).trans rfl; have hfz63_0 := blk_frozen BK121.out 0; have hfz63_1 := blk_frozen BK121.out 1) | (go_at_call 15; (with_reducible refine (PA.bulletinlaw15_same.calls kj4 _ _ t126 t129 _ _ t115 t118 t133 _ ?side1 ?side2 ?side3 ?side4 A53.out).mono ?_); (case side1 => refine (Kd.R_reads' (e := 76) (base := w.heap.size) (ok := fun k_ => (True ∧ some k_ ≠ (.slice Ao9 t108.length co9 : Value).ownBlock)) (n := t126.length) (c := co59) ?_).2.2; exact (by (with_reducible repeat (first | apply Kd.R_alloc | apply Kd.R_drewN | apply Kd.R_drew)); exact (Kd.R_mono (Kd.R_far (p := ⟨gb132, 1, none⟩) (Kd.R_far (p := ⟨gb132, 0, none⟩) (Kd.R_types HO128.out BK132.out (by decide)) (fun _ hk => hk.2) (.slice Ao59 t126.length co59)) (fun _ hk => hk.2) (.string t129)) (fun _ h_ => h_.1)))); (case side2 => exact (Kd.R_reads' HO128.out).2.1); (case side3 => refine (Kd.R_reads' (e := 78) (base := w.heap.size) (ok := fun k_ => True) (n := t115.length) (c := co13) ?_).2.2; exact (by (with_reducible repeat (first | apply Kd.R_alloc | apply Kd.R_drewN | apply Kd.R_drew)); exact (Kd.R_mono (Kd.R_far (p := ⟨gb132, 1, none⟩) (Kd.R_far (p := ⟨gb132, 0, none⟩) (Kd.R_types HO_122000.out BK132.out (by decide)) (fun _ hk => hk.2) (.slice Ao59 t126.length co59)) (fun _ hk => hk.2) (.string t129)) (fun _ h_ => h_.1)))); (case side4 => exact (Kd.R_reads' HO_122000.out).2.1); rintro e w64 ⟨rfl, hb⟩; have n0_ := Aside0.mk (Kd.R_below (by (with_reducible repeat (first | apply Kd.R_alloc | apply Kd.R_drewN | apply Kd.R_drew)); exact (Kd.R_mono (Kd.R_far (p := ⟨gb132, 1, none⟩) (Kd.R_far (p := ⟨gb132, 0, none⟩) (Kd.R_types HO_115000.out BK132.out (by decide)) (fun _ hk => hk.2) (.slice Ao59 t126.length co59)) (fun _ hk => hk.2) (.string t129)) (fun _ h_ => h_.1))) hb); have n1_ := Aside0.mk (Kd.R_below (by (with_reducible repeat (first | apply Kd.R_alloc | apply Kd.R_drewN | apply Kd.R_drew)); exact (Kd.R_mono (Kd.R_far (p := ⟨gb132, 1, none⟩) (Kd.R_far (p := ⟨gb132, 0, none⟩) (Kd.R_types HO_122000.out BK132.out (by decide)) (fun _ hk => hk.2) (.slice Ao59 t126.length co59)) (fun _ hk => hk.2) (.string t129)) (fun _ h_ => h_.1))) hb); have n2_ := Aside0.mk (Kd.R_below (by (with_reducible repeat (first | apply Kd.R_alloc | apply Kd.R_drewN | apply Kd.R_drew)); exact (Kd.R_mono (Kd.R_far (p := ⟨gb132, 1, none⟩) (Kd.R_far (p := ⟨gb132, 0, none⟩) (Kd.R_types HO128.out BK132.out (by decide)) (fun _ hk => hk.2) (.slice Ao59 t126.length co59)) (fun _ hk => hk.2) (.string t129)) (fun _ h_ => h_.1))) hb); have n3_ := Aside0.mk (blk_below (g := gb114) (o := .cells #[.slice Ao9 t108.length co9, .string t111] 25 (0, 0)) (by (with_reducible repeat (first | refine blk_drewN ?_ _ | refine blk_drew ?_ | refine blk_alloc ?_ _)); refine blk_far ?_ NB114_132.out _; (with_reducible repeat (first | refine blk_drewN ?_ _ | refine blk_drew ?_ | refine blk_alloc ?_ _)); refine blk_far ?_ NB114_132.out _; (with_reducible repeat (first | refine blk_drewN ?_ _ | refine blk_drew ?_ | refine blk_alloc ?_ _)); exact BK114.out) hb); have n4_ := Aside0.mk (blk_below (g := gb121) (o := .cells #[.slice Ao13 t115.length co13, .string t118] 31 (0, 0)) (by (with_reducible repeat (first | refine blk_drewN ?_ _ | refine blk_drew ?_ | refine blk_alloc ?_ _)); refine blk_far ?_ NB121_132.out _; (with_reducible repeat (first | refine blk_drewN ?_ _ | refine blk_drew ?_ | refine blk_alloc ?_ _)); refine blk_far ?_ NB121_132.out _; (with_reducible repeat (first | refine blk_drewN ?_ _ | refine blk_drew ?_ | refine blk_alloc ?_ _)); exact BK121.out) hb); have n5_ := Aside0.mk (blk_below (g := gb132) (o := .cells #[.slice Ao59 t126.length co59, .string t129] 25 (0, 0)) (by (with_reducible repeat (first | refine blk_drewN ?_ _ | refine blk_drew ?_ | refine blk_alloc ?_ _)); refine blk_put (cs := #[.slice Ao59 t126.length co59, .string (⟨#[]⟩ : ByteArray)]) ?_ 1 _ rfl; (with_reducible repeat (first | refine blk_drewN ?_ _ | refine blk_drew ?_ | refine blk_alloc ?_ _)); refine blk_put (cs := #[.slice none 0 0, .string (⟨#[]⟩ : ByteArray)]) ?_ 0 _ rfl; (with_reducible repeat (first | refine blk_drewN ?_ _ | refine blk_drew ?_ | refine blk_alloc ?_ _)); exact BK132.out) hb); have n6_ := Aside0.mk (below_step (by repeat (first | (with_reducible first | exact HB.out | apply below_alloc | apply pw_below_drewN | apply below_drew1 | refine below_set ?_ GE114.out | refine below_set ?_ GE121.out | refine below_set ?_ GE132.out) | exact HB.out)) hb); clear HO_115000; clear HO_122000; clear HO128; clear BK114; clear BK121; clear BK132; clear HB; have HO_115000 := n0_; have HO_122000 := n1_; have HO128 := n2_; have BK114 := n3_; have BK121 := n4_; have BK132 := n5_; have HB := n6_; clear n0_ n1_ n2_ n3_ n4_ n5_ n6_; (try clear hb); (try clear hb2); (try clear hk); (try clear hi)))
                go_ret
                exact ⟨by first | rfl | (simp [errW_none, errW_some] <;> rfl) | (simp [*, errW_none, errW_some] <;> rfl), by repeat (first | (with_reducible first | exact HB.out | apply below_alloc | apply pw_below_drewN | apply below_drew1 | refine below_set ?_ GE114.out | refine below_set ?_ GE121.out | refine below_set ?_ GE132.out) | exact HB.out)⟩
              · rw [if_neg c52] at H
                have c52b0 : (t131 == 0) = false := beq_eq_false_iff_ne.mpr c52
                have c52b1 : (t131 != 0) = true := bne_iff_ne.mpr c52
                obtain rfl := Option.some.inj H
                have hnb65 := NB114_121.out
                have hnc65 := NB121_114.out
                have hcz66_0 : wc.cell? ⟨gb114, 0, none⟩ = some (.slice Ao9 t108.length co9) := (blk_cell BK114.out 0).trans rfl
                have hcz66_1 : wc.cell? ⟨gb114, 1, none⟩ = some (.string t111) := (blk_cell BK114.out 1).trans rfl
                have hfz66_0 := blk_frozen BK114.out 0
                have hfz66_1 := blk_frozen BK114.out 1
                go_wp2_with (first | ((with_reducible refine gate_callee (f := 16) rfl ?_); refine goesL_ (some 50) rfl rfl Tryz.func16 (by kernel_rfl) rfl #[.agg #[.slice Ao9 t108.length co9, .string t111]] rfl (by (try simp only [List.map_toArray, List.map_cons, List.map_nil]); first | done | rfl | (simp only [List.length_drop, List.length_take]; rfl)) ?_; (with_reducible refine (PC.article_Print.calls kj4 _ _ t108 t111 t124 t125 _ ?side1 ?side2 A39.out).mono ?_); (case side1 => repeat (first | exact (Kd.R_reads' HO_115000.out).2.2 | (with_reducible refine Kd.C_alloc ?_ _) | (with_reducible refine Kd.C_drewN ?_ _) | (with_reducible refine Kd.C_drew ?_))); (case side2 => exact (Kd.R_reads' HO_115000.out).2.1); rintro e w67 ⟨rfl, hb⟩; refine ⟨_, rfl, ?_⟩; have n0_ := Aside0.mk (Kd.R_below (by (with_reducible repeat (first | apply Kd.R_alloc | apply Kd.R_drewN | apply Kd.R_drew)); exact HO_115000.out) hb); have n1_ := Aside0.mk (Kd.R_below (by (with_reducible repeat (first | apply Kd.R_alloc | apply Kd.R_drewN | apply Kd.R_drew)); exact HO_122000.out) hb); have n2_ := Aside0.mk (blk_below (g := gb114) (o := .cells #[.slice Ao9 t108.length co9, .string t111] 25 (0, 0)) (by (with_reducible repeat (first | refine blk_drewN ?_ _ | refine blk_drew ?_ | refine blk_alloc ?_ _)); exact BK114.out) hb); have n3_ := Aside0.mk (blk_below (g := gb121) (o := .cells #[.slice Ao13 t115.length co13, .string t118] 31 (0, 0)) (by (with_reducible repeat (first | refine blk_drewN ?_ _ | refine blk_drew ?_ | refine blk_alloc ?_ _)); exact BK121.out) hb); have n4_ := Aside0.mk (below_step (by repeat (first | (with_reducible first | exact HB.out | apply below_alloc | apply pw_below_drewN | apply below_drew1 | refine below_set ?_ GE114.out | refine below_set ?_ GE121.out) | exact HB.out)) hb); clear HO_115000; clear HO_122000; clear BK114; clear BK121; clear HB; have HO_115000 := n0_; have HO_122000 := n1_; have BK114 := n2_; have BK121 := n3_; have HB := n4_; clear n0_ n1_ n2_ n3_ n4_; (try clear hb); (try clear hb2); (try clear hk); (try clear hi)) | ((with_reducible refine gate_callee (f := 12) rfl ?_); refine goesL_ (some 55) rfl rfl Tryz.func12 (by kernel_rfl) rfl #[.string t124] rfl (by (try simp only [List.map_toArray, List.map_cons, List.map_nil]); first | done | rfl | (simp only [List.length_drop, List.length_take]; rfl)) ?_; (with_reducible refine (GV.AParse.calls kj4 t124 t126 t129 t130 t131 _ ?side1 A40.out).mono ?_); (case side1 => exact gm_at HGM.out (by repeat (first | (with_reducible first | exact HB.out | apply below_alloc | apply pw_below_drewN | apply below_drew1 | refine below_set ?_ GE114.out | refine below_set ?_ GE121.out) | exact HB.out))); rintro e w68 ⟨v127, rfl, ho0, hb⟩; refine ⟨_, rfl, ?_⟩; have n0_ := Aside0.mk (Kd.R_elder' (by (with_reducible repeat (first | apply Kd.R_alloc | apply Kd.R_drewN | apply Kd.R_drew)); exact HO_115000.out) (Kd.R_base ho0) hb); have n1_ := Aside0.mk (Kd.R_below (by (with_reducible repeat (first | apply Kd.R_alloc | apply Kd.R_drewN | apply Kd.R_drew)); exact HO_122000.out) hb); have n2_ := Aside0.mk (Kd.R_lower (Kd.R_new' ho0 (Kd.R_lt (by (with_reducible repeat (first | apply Kd.R_alloc | apply Kd.R_drewN | apply Kd.R_drew)); exact HO_115000.out))) (below_size (by repeat (first | (with_reducible first | exact HB.out | apply below_alloc | apply pw_below_drewN | apply below_drew1 | refine below_set ?_ GE114.out | refine below_set ?_ GE121.out) | exact HB.out)))); have n3_ := Aside0.mk (blk_below (g := gb114) (o := .cells #[.slice Ao9 t108.length co9, .string t111] 25 (0, 0)) (by (with_reducible repeat (first | refine blk_drewN ?_ _ | refine blk_drew ?_ | refine blk_alloc ?_ _)); exact BK114.out) hb); have n4_ := Aside0.mk (blk_below (g := gb121) (o := .cells #[.slice Ao13 t115.length co13, .string t118] 31 (0, 0)) (by (with_reducible repeat (first | refine blk_drewN ?_ _ | refine blk_drew ?_ | refine blk_alloc ?_ _)); exact BK121.out) hb); have n5_ := Aside0.mk (below_step (by repeat (first | (with_reducible first | exact HB.out | apply below_alloc | apply pw_below_drewN | apply below_drew1 | refine below_set ?_ GE114.out | refine below_set ?_ GE121.out) | exact HB.out)) hb); clear HO_115000; clear HO_122000; clear BK114; clear BK121; clear HB; have HO_115000 := n0_; have HO_122000 := n1_; have HO128 := n2_; have BK114 := n3_; have BK121 := n4_; have HB := n5_; clear n0_ n1_ n2_ n3_ n4_ n5_; (try clear hb); (try clear hb2); (try clear hk); (try clear hi); (try clear ho0)) | ((with_reducible refine gate_dst (N := 11) rfl ?_); refine box_event ?hg (N := 11) ?hd (cs := #[.slice none 0 0, .string (⟨#[]⟩ : ByteArray)]) (t := 25) ?hr ?_; (case hd => rfl); (case hg => rfl); (case hr => first | (go_simp; done) | (go_simp; rfl)); intro gb132 hg w69 hbox hb; have n0_ := Aside0.mk (Kd.R_below (by (with_reducible repeat (first | apply Kd.R_alloc | apply Kd.R_drewN | apply Kd.R_drew)); exact HO_115000.out) hb); have n1_ := Aside0.mk (Kd.R_below (by (with_reducible repeat (first | apply Kd.R_alloc | apply Kd.R_drewN | apply Kd.R_drew)); exact HO_122000.out) hb); have n2_ := Aside0.mk (Kd.R_below (by (with_reducible repeat (first | apply Kd.R_alloc | apply Kd.R_drewN | apply Kd.R_drew)); exact HO128.out) hb); have n3_ := Aside0.mk (blk_below (g := gb114) (o := .cells #[.slice Ao9 t108.length co9, .string t111] 25 (0, 0)) (by (with_reducible repeat (first | refine blk_drewN ?_ _ | refine blk_drew ?_ | refine blk_alloc ?_ _)); exact BK114.out) hb); have n4_ := Aside0.mk (blk_below (g := gb121) (o := .cells #[.slice Ao13 t115.length co13, .string t118] 31 (0, 0)) (by (with_reducible repeat (first | refine blk_drewN ?_ _ | refine blk_drew ?_ | refine blk_alloc ?_ _)); exact BK121.out) hb); have n5_ := Aside0.mk (below_step (by repeat (first | (with_reducible first | exact HB.out | apply below_alloc | apply pw_below_drewN | apply below_drew1 | refine below_set ?_ GE114.out | refine below_set ?_ GE121.out) | exact HB.out)) hb); have n6_ := Aside0.mk (hbox); have n7_ := Aside0.mk ((by rw [hg]; exact (below_size (by repeat (first | (with_reducible first | exact HB.out | apply below_alloc | apply pw_below_drewN | apply below_drew1 | refine below_set ?_ GE114.out | refine below_set ?_ GE121.out) | exact HB.out))) : w.heap.size ≤ gb132)); have n8_ := Aside0.mk ((by rw [hg]; exact (below_size (by repeat (first | (with_reducible first | exact HB.out | apply below_alloc | apply pw_below_drewN | apply below_drew1 | refine below_set ?_ GE114.out | refine below_set ?_ GE121.out) | exact HB.out))) : w.heap.size ≤ gb132)); have n9_ := Aside0.mk ((by rw [hg]; exact Nat.ne_of_lt (blk_lt (g := gb114) (o := .cells #[.slice Ao9 t108.length co9, .string t111] 25 (0, 0)) (by (with_reducible repeat (first | refine blk_drewN ?_ _ | refine blk_drew ?_ | refine blk_alloc ?_ _)); exact BK114.out)) : gb114 ≠ gb132)); have n10_ := Aside0.mk ((by rw [hg]; exact Nat.ne_of_gt (blk_lt (g := gb114) (o := .cells #[.slice Ao9 t108.length co9, .string t111] 25 (0, 0)) (by (with_reducible repeat (first | refine blk_drewN ?_ _ | refine blk_drew ?_ | refine blk_alloc ?_ _)); exact BK114.out)) : gb132 ≠ gb114)); have n11_ := Aside0.mk ((by rw [hg]; exact Nat.ne_of_lt (blk_lt (g := gb121) (o := .cells #[.slice Ao13 t115.length co13, .string t118] 31 (0, 0)) (by (with_reducible repeat (first | refine blk_drewN ?_ _ | refine blk_drew ?_ | refine blk_alloc ?_ _)); exact BK121.out)) : gb121 ≠ gb132)); have n12_ := Aside0.mk ((by rw [hg]; exact Nat.ne_of_gt (blk_lt (g := gb121) (o := .cells #[.slice Ao13 t115.length co13, .string t118] 31 (0, 0)) (by (with_reducible repeat (first | refine blk_drewN ?_ _ | refine blk_drew ?_ | refine blk_alloc ?_ _)); exact BK121.out)) : gb132 ≠ gb121)); clear HO_115000; clear HO_122000; clear HO128; clear BK114; clear BK121; clear HB; have HO_115000 := n0_; have HO_122000 := n1_; have HO128 := n2_; have BK114 := n3_; have BK121 := n4_; have HB := n5_; have BK132 := n6_; have GW132 := n7_; have GE132 := n8_; have NB114_132 := n9_; have NB132_114 := n10_; have NB121_132 := n11_; have NB132_121 := n12_; clear n0_ n1_ n2_ n3_ n4_ n5_ n6_ n7_ n8_ n9_ n10_ n11_ n12_; clear hb hbox hg; obtain ⟨Ao70, co70, eo70⟩ := Kd.R_slice HO128.out; subst eo70; have hnb71 := NB132_114.out; have hnc71 := NB114_132.out; have hnb72 := NB132_121.out; have hnc72 := NB121_132.out; have hcz73_0 : w69.cell? ⟨gb132, 0, none⟩ = some (.slice none 0 0) := (blk_cell BK132.out 0).trans rfl; have hcz73_1 : w69.cell? ⟨gb132, 1, none⟩ = some (.string (⟨#[]⟩ : ByteArray)) := (blk_cell BK132.out 1).trans rfl; have hfz73_0 := blk_frozen BK132.out 0; have hfz73_1 := blk_frozen BK132.out 1))
                go_ret
                exact ⟨by first | rfl | (simp [errW_none, errW_some] <;> rfl) | (simp [*, errW_none, errW_some] <;> rfl), by repeat (first | (with_reducible first | exact HB.out | apply below_alloc | apply pw_below_drewN | apply below_drew1 | refine below_set ?_ GE114.out | refine below_set ?_ GE121.out | refine below_set ?_ GE132.out) | exact HB.out)⟩
            · rw [if_neg c51] at H
              have c51b0 : (t125 == 0) = false := beq_eq_false_iff_ne.mpr c51
              have c51b1 : (t125 != 0) = true := bne_iff_ne.mpr c51
              obtain rfl := Option.some.inj H
              have hnb74 := NB114_121.out
              have hnc74 := NB121_114.out
              have hcz75_0 : wc.cell? ⟨gb114, 0, none⟩ = some (.slice Ao9 t108.length co9) := (blk_cell BK114.out 0).trans rfl
              have hcz75_1 : wc.cell? ⟨gb114, 1, none⟩ = some (.string t111) := (blk_cell BK114.out 1).trans rfl
              have hfz75_0 := blk_frozen BK114.out 0
              have hfz75_1 := blk_frozen BK114.out 1
              go_wp2_with (first | ((with_reducible refine gate_callee (f := 16) rfl ?_); refine goesL_ (some 50) rfl rfl Tryz.func16 (by kernel_rfl) rfl #[.agg #[.slice Ao9 t108.length co9, .string t111]] rfl (by (try simp only [List.map_toArray, List.map_cons, List.map_nil]); first | done | rfl | (simp only [List.length_drop, List.length_take]; rfl)) ?_; (with_reducible refine (PC.article_Print.calls kj4 _ _ t108 t111 t124 t125 _ ?side1 ?side2 A39.out).mono ?_); (case side1 => repeat (first | exact (Kd.R_reads' HO_115000.out).2.2 | (with_reducible refine Kd.C_alloc ?_ _) | (with_reducible refine Kd.C_drewN ?_ _) | (with_reducible refine Kd.C_drew ?_))); (case side2 => exact (Kd.R_reads' HO_115000.out).2.1); rintro e w76 ⟨rfl, hb⟩; refine ⟨_, rfl, ?_⟩; have n0_ := Aside0.mk (Kd.R_below (by (with_reducible repeat (first | apply Kd.R_alloc | apply Kd.R_drewN | apply Kd.R_drew)); exact HO_115000.out) hb); have n1_ := Aside0.mk (Kd.R_below (by (with_reducible repeat (first | apply Kd.R_alloc | apply Kd.R_drewN | apply Kd.R_drew)); exact HO_122000.out) hb); have n2_ := Aside0.mk (blk_below (g := gb114) (o := .cells #[.slice Ao9 t108.length co9, .string t111] 25 (0, 0)) (by (with_reducible repeat (first | refine blk_drewN ?_ _ | refine blk_drew ?_ | refine blk_alloc ?_ _)); exact BK114.out) hb); have n3_ := Aside0.mk (blk_below (g := gb121) (o := .cells #[.slice Ao13 t115.length co13, .string t118] 31 (0, 0)) (by (with_reducible repeat (first | refine blk_drewN ?_ _ | refine blk_drew ?_ | refine blk_alloc ?_ _)); exact BK121.out) hb); have n4_ := Aside0.mk (below_step (by repeat (first | (with_reducible first | exact HB.out | apply below_alloc | apply pw_below_drewN | apply below_drew1 | refine below_set ?_ GE114.out | refine below_set ?_ GE121.out) | exact HB.out)) hb); clear HO_115000; clear HO_122000; clear BK114; clear BK121; clear HB; have HO_115000 := n0_; have HO_122000 := n1_; have BK114 := n2_; have BK121 := n3_; have HB := n4_; clear n0_ n1_ n2_ n3_ n4_; (try clear hb); (try clear hb2); (try clear hk); (try clear hi)) | ((with_reducible refine gate_callee (f := 12) rfl ?_); refine goesL_ (some 55) rfl rfl Tryz.func12 (by kernel_rfl) rfl #[.string t124] rfl (by (try simp only [List.map_toArray, List.map_cons, List.map_nil]); first | done | rfl | (simp only [List.length_drop, List.length_take]; rfl)) ?_; (with_reducible refine (GV.AParse.calls kj4 t124 t126 t129 t130 t131 _ ?side1 A40.out).mono ?_); (case side1 => exact gm_at HGM.out (by repeat (first | (with_reducible first | exact HB.out | apply below_alloc | apply pw_below_drewN | apply below_drew1 | refine below_set ?_ GE114.out | refine below_set ?_ GE121.out) | exact HB.out))); rintro e w77 ⟨v127, rfl, ho0, hb⟩; refine ⟨_, rfl, ?_⟩; have n0_ := Aside0.mk (Kd.R_elder' (by (with_reducible repeat (first | apply Kd.R_alloc | apply Kd.R_drewN | apply Kd.R_drew)); exact HO_115000.out) (Kd.R_base ho0) hb); have n1_ := Aside0.mk (Kd.R_below (by (with_reducible repeat (first | apply Kd.R_alloc | apply Kd.R_drewN | apply Kd.R_drew)); exact HO_122000.out) hb); have n2_ := Aside0.mk (Kd.R_lower (Kd.R_new' ho0 (Kd.R_lt (by (with_reducible repeat (first | apply Kd.R_alloc | apply Kd.R_drewN | apply Kd.R_drew)); exact HO_115000.out))) (below_size (by repeat (first | (with_reducible first | exact HB.out | apply below_alloc | apply pw_below_drewN | apply below_drew1 | refine below_set ?_ GE114.out | refine below_set ?_ GE121.out) | exact HB.out)))); have n3_ := Aside0.mk (blk_below (g := gb114) (o := .cells #[.slice Ao9 t108.length co9, .string t111] 25 (0, 0)) (by (with_reducible repeat (first | refine blk_drewN ?_ _ | refine blk_drew ?_ | refine blk_alloc ?_ _)); exact BK114.out) hb); have n4_ := Aside0.mk (blk_below (g := gb121) (o := .cells #[.slice Ao13 t115.length co13, .string t118] 31 (0, 0)) (by (with_reducible repeat (first | refine blk_drewN ?_ _ | refine blk_drew ?_ | refine blk_alloc ?_ _)); exact BK121.out) hb); have n5_ := Aside0.mk (below_step (by repeat (first | (with_reducible first | exact HB.out | apply below_alloc | apply pw_below_drewN | apply below_drew1 | refine below_set ?_ GE114.out | refine below_set ?_ GE121.out) | exact HB.out)) hb); clear HO_115000; clear HO_122000; clear BK114; clear BK121; clear HB; have HO_115000 := n0_; have HO_122000 := n1_; have HO128 := n2_; have BK114 := n3_; have BK121 := n4_; have HB := n5_; clear n0_ n1_ n2_ n3_ n4_ n5_; (try clear hb); (try clear hb2); (try clear hk); (try clear hi); (try clear ho0)) | ((with_reducible refine gate_dst (N := 11) rfl ?_); refine box_event ?hg (N := 11) ?hd (cs := #[.slice none 0 0, .string (⟨#[]⟩ : ByteArray)]) (t := 25) ?hr ?_; (case hd => rfl); (case hg => rfl); (case hr => first | (go_simp; done) | (go_simp; rfl)); intro gb132 hg w78 hbox hb; have n0_ := Aside0.mk (Kd.R_below (by (with_reducible repeat (first | apply Kd.R_alloc | apply Kd.R_drewN | apply Kd.R_drew)); exact HO_115000.out) hb); have n1_ := Aside0.mk (Kd.R_below (by (with_reducible repeat (first | apply Kd.R_alloc | apply Kd.R_drewN | apply Kd.R_drew)); exact HO_122000.out) hb); have n2_ := Aside0.mk (Kd.R_below (by (with_reducible repeat (first | apply Kd.R_alloc | apply Kd.R_drewN | apply Kd.R_drew)); exact HO128.out) hb); have n3_ := Aside0.mk (blk_below (g := gb114) (o := .cells #[.slice Ao9 t108.length co9, .string t111] 25 (0, 0)) (by (with_reducible repeat (first | refine blk_drewN ?_ _ | refine blk_drew ?_ | refine blk_alloc ?_ _)); exact BK114.out) hb); have n4_ := Aside0.mk (blk_below (g := gb121) (o := .cells #[.slice Ao13 t115.length co13, .string t118] 31 (0, 0)) (by (with_reducible repeat (first | refine blk_drewN ?_ _ | refine blk_drew ?_ | refine blk_alloc ?_ _)); exact BK121.out) hb); have n5_ := Aside0.mk (below_step (by repeat (first | (with_reducible first | exact HB.out | apply below_alloc | apply pw_below_drewN | apply below_drew1 | refine below_set ?_ GE114.out | refine below_set ?_ GE121.out) | exact HB.out)) hb); have n6_ := Aside0.mk (hbox); have n7_ := Aside0.mk ((by rw [hg]; exact (below_size (by repeat (first | (with_reducible first | exact HB.out | apply below_alloc | apply pw_below_drewN | apply below_drew1 | refine below_set ?_ GE114.out | refine below_set ?_ GE121.out) | exact HB.out))) : w.heap.size ≤ gb132)); have n8_ := Aside0.mk ((by rw [hg]; exact (below_size (by repeat (first | (with_reducible first | exact HB.out | apply below_alloc | apply pw_below_drewN | apply below_drew1 | refine below_set ?_ GE114.out | refine below_set ?_ GE121.out) | exact HB.out))) : w.heap.size ≤ gb132)); have n9_ := Aside0.mk ((by rw [hg]; exact Nat.ne_of_lt (blk_lt (g := gb114) (o := .cells #[.slice Ao9 t108.length co9, .string t111] 25 (0, 0)) (by (with_reducible repeat (first | refine blk_drewN ?_ _ | refine blk_drew ?_ | refine blk_alloc ?_ _)); exact BK114.out)) : gb114 ≠ gb132)); have n10_ := Aside0.mk ((by rw [hg]; exact Nat.ne_of_gt (blk_lt (g := gb114) (o := .cells #[.slice Ao9 t108.length co9, .string t111] 25 (0, 0)) (by (with_reducible repeat (first | refine blk_drewN ?_ _ | refine blk_drew ?_ | refine blk_alloc ?_ _)); exact BK114.out)) : gb132 ≠ gb114)); have n11_ := Aside0.mk ((by rw [hg]; exact Nat.ne_of_lt (blk_lt (g := gb121) (o := .cells #[.slice Ao13 t115.length co13, .string t118] 31 (0, 0)) (by (with_reducible repeat (first | refine blk_drewN ?_ _ | refine blk_drew ?_ | refine blk_alloc ?_ _)); exact BK121.out)) : gb121 ≠ gb132)); have n12_ := Aside0.mk ((by rw [hg]; exact Nat.ne_of_gt (blk_lt (g := gb121) (o := .cells #[.slice Ao13 t115.length co13, .string t118] 31 (0, 0)) (by (with_reducible repeat (first | refine blk_drewN ?_ _ | refine blk_drew ?_ | refine blk_alloc ?_ _)); exact BK121.out)) : gb132 ≠ gb121)); clear HO_115000; clear HO_122000; clear HO128; clear BK114; clear BK121; clear HB; have HO_115000 := n0_; have HO_122000 := n1_; have HO128 := n2_; have BK114 := n3_; have BK121 := n4_; have HB := n5_; have BK132 := n6_; have GW132 := n7_; have GE132 := n8_; have NB114_132 := n9_; have NB132_114 := n10_; have NB121_132 := n11_; have NB132_121 := n12_; clear n0_ n1_ n2_ n3_ n4_ n5_ n6_ n7_ n8_ n9_ n10_ n11_ n12_; clear hb hbox hg; obtain ⟨Ao79, co79, eo79⟩ := Kd.R_slice HO128.out; subst eo79; have hnb80 := NB132_114.out; have hnc80 := NB114_132.out; have hnb81 := NB132_121.out; have hnc81 := NB121_132.out; have hcz82_0 : w78.cell? ⟨gb132, 0, none⟩ = some (.slice none 0 0) := (blk_cell BK132.out 0).trans rfl; have hcz82_1 : w78.cell? ⟨gb132, 1, none⟩ = some (.string (⟨#[]⟩ : ByteArray)) := (blk_cell BK132.out 1).trans rfl; have hfz82_0 := blk_frozen BK132.out 0; have hfz82_1 := blk_frozen BK132.out 1))
              go_ret
              exact ⟨by first | rfl | (simp [errW_none, errW_some] <;> rfl) | (simp [*, errW_none, errW_some] <;> rfl), by repeat (first | (with_reducible first | exact HB.out | apply below_alloc | apply pw_below_drewN | apply below_drew1 | refine below_set ?_ GE114.out | refine below_set ?_ GE121.out | refine below_set ?_ GE132.out) | exact HB.out)⟩
        · rw [if_neg c38] at H
          have c38b0 : (t113 == 0) = false := beq_eq_false_iff_ne.mpr c38
          have c38b1 : (t113 != 0) = true := bne_iff_ne.mpr c38
          obtain rfl := Option.some.inj H
          go_wp2
          go_ret
          exact ⟨by first | rfl | (simp [errW_none, errW_some] <;> rfl) | (simp [*, errW_none, errW_some] <;> rfl), by repeat (first | (with_reducible first | exact HB.out | apply below_alloc | apply pw_below_drewN | apply below_drew1 | refine below_set ?_ GE114.out | refine below_set ?_ GE121.out) | exact HB.out)⟩

/-- THE ONE PURE STATEMENT of bulletinlaw15_ArticleParses: yours. -/
def bulletinlaw15_ArticleParses.Pure : Prop := ∀ (a0 : ByteArray), a0.size ≤ 140737488351232 → ∃ k, bulletinlaw15_ArticleParses.f k a0 = some true
theorem bulletinlaw15_ArticleParses.walk (P : bulletinlaw15_ArticleParses.Pure) (a0 : ByteArray) (w : World) (hgm : Gm w) (w0 : a0.size ≤ 140737488351232) :
    Calls Tryz.prog 3 #[.string a0] w fun e w' => e = .returned (.bool true) ∧ Below w.heap.size w w' := by
  obtain ⟨k, h⟩ := P a0 w0
  refine (bulletinlaw15_ArticleParses.calls k a0 true w hgm h).mono ?_
  rintro e w' ⟨rfl, hd⟩
  exact ⟨rfl, hd⟩

end Go.Proofs.YtfeciafdioepiaaGreatDoor.PL
set_option linter.unusedVariables false
set_option linter.unusedSimpArgs false
/- The reference's ValidName as a function on lists. -/
namespace Go.Proofs.YtfeciafdioepiaaGreatDoor
open Go.RowKit Go.Proofs Go.Proofs.YtfeciafdioepiaaGreatDoorW.PrintWords Go.Proofs.YtfeciafdioepiaaGreatDoor.PA

def lowQ (c : UInt8) : Bool := decide (97 ≤ c) && decide (c ≤ 122)
def uppU (c : UInt8) : Bool := decide (65 ≤ c) && decide (c ≤ 90)
theorem rLowF (c : UInt8) : bulletinref01_Lowercase.f (c.toNat : Int) = some (lowQ c) := by
  refine all_u8 (P := fun c => bulletinref01_Lowercase.f (c.toNat : Int) = some (lowQ c)) ?_ c
  decide +kernel
theorem rUppF (c : UInt8) : bulletinref01_Uppercase.f (c.toNat : Int) = some (uppU c) := by
  refine all_u8 (P := fun c => bulletinref01_Uppercase.f (c.toNat : Int) = some (uppU c)) ?_ c
  decide +kernel
theorem rDigF (c : UInt8) : bulletinref01_Digit.f (c.toNat : Int) = some (isDigitU c) := by
  refine all_u8 (P := fun c => bulletinref01_Digit.f (c.toNat : Int) = some (isDigitU c)) ?_ c
  decide +kernel
theorem letter_or (c : UInt8) : isLetterU c = (lowQ c || uppU c) := by
  refine all_u8 (P := fun c => isLetterU c = (lowQ c || uppU c)) ?_ c
  decide +kernel

theorem refValidLoop (l : List UInt8) (hl : l.length ≤ 1100000) : ∀ d k i : Nat, l.length - i = d → d < k → i ≤ l.length → 0 < i →
    bulletinref09_ValidName.l0 k (mkS l) (i : Int) = some ((l.drop i).all nameByte) := by
  have hs := mkS_size l
  intro d
  induction d with
  | zero =>
    intro k i hd hk hi _
    obtain ⟨k, rfl⟩ : ∃ m, k = m + 1 := ⟨k - 1, by omega⟩
    simp only [bulletinref09_ValidName.l0]
    rw [if_neg (by omega), List.drop_eq_nil_of_le (by omega)]; rfl
  | succ d ih =>
    intro k i hd hk hi h0
    obtain ⟨k, rfl⟩ : ∃ m, k = m + 1 := ⟨k - 1, by omega⟩
    simp only [bulletinref09_ValidName.l0]
    have hlt : i < l.length := by omega
    have hw : wrap64 ((i : Int) + 1) = ((i + 1 : Nat) : Int) := by unfold wrap64; omega
    rw [if_pos (by omega), if_pos (by omega), bt_mk l i hlt, rLowF, List.drop_eq_getElem_cons hlt, List.all_cons, hw]
    simp only [Option.bind_some]
    have hih := ih k (i + 1) (by omega) (by omega) (by omega) (by omega)
    rw [hih]
    by_cases h1 : lowQ l[i] = true
    · rw [if_pos h1]; simp [nameByte, letter_or, h1]
    · rw [if_neg h1, rUppF]
      simp only [Option.bind_some]
      by_cases h2 : uppU l[i] = true
      · rw [if_pos h2]; simp [nameByte, letter_or, h2]
      · rw [if_neg h2, if_neg (by omega), rDigF]
        simp only [Option.bind_some]
        by_cases h3 : isDigitU l[i] = true
        · rw [if_pos h3]; simp [nameByte, h3]
        · rw [if_neg h3]
          by_cases h4 : l[i] = 45
          · rw [if_pos ((byte45 _).2 h4)]; simp [nameByte, h4]
          · rw [if_neg (fun h => h4 ((byte45 _).1 h))]; simp [nameByte, letter_or, h1, h2, h3, h4]
theorem refValidF (l : List UInt8) (hl : l.length ≤ 1100000) (k : Nat) (hk : l.length + 2 ≤ k) : bulletinref09_ValidName.f k (mkS l) = some (validNameL l) := by
  have hs := mkS_size l
  obtain ⟨k, rfl⟩ : ∃ m, k = m + 1 := ⟨k - 1, by omega⟩
  unfold bulletinref09_ValidName.f
  cases l with
  | nil =>
    rw [if_pos (by rw [hs]; simp)]
    simp only [bulletinref09_ValidName.j0]
    rfl
  | cons c t =>
    have hlc : (c :: t).length = t.length + 1 := rfl
    rw [if_neg (by omega)]
    simp only [bulletinref09_ValidName.j0]
    by_cases h40 : (c :: t).length ≤ 40
    · rw [if_neg (by simp; omega)]
      obtain ⟨k, rfl⟩ : ∃ m, k = m + 1 := ⟨k - 1, by omega⟩
      simp only [bulletinref09_ValidName.l0]
      have hb := bt_mk (c :: t) 0 (by omega)
      rw [if_pos (by omega), if_pos (by omega), show (0 : Int) = ((0 : Nat) : Int) from rfl, hb, rLowF]
      have hw : wrap64 (((0 : Nat) : Int) + 1) = ((1 : Nat) : Int) := by unfold wrap64; omega
      rw [hw, refValidLoop (c :: t) hl _ k 1 rfl (by omega) (by omega) (by omega)]
      simp only [Option.bind_some, List.getElem_cons_zero, List.drop_one, List.tail_cons]
      by_cases h1 : lowQ c = true
      · rw [if_pos h1]; simp [validNameL, nameByte, letter_or, h1]; omega
      · rw [if_neg h1, rUppF]
        simp only [Option.bind_some]
        by_cases h2 : uppU c = true
        · rw [if_pos h2]; simp [validNameL, nameByte, letter_or, h2]; omega
        · rw [if_neg h2, if_pos trivial]; simp [validNameL, letter_or, h1, h2]
    · rw [if_pos (by simp; omega)]
      have : decide ((c :: t).length ≤ 40) = false := decide_eq_false h40
      unfold validNameL; rw [this]; rfl
theorem validLoopM (l : List UInt8) (hl : l.length ≤ 1100000) : ∀ d k i : Nat, l.length - i = d → d < k → i ≤ l.length →
    field_ValidName.l0 k (mkS l) (l.length : Int) (i : Int) = some ((l.drop i).all nameByte) := by
  have hs := mkS_size l
  intro d
  induction d with
  | zero =>
    intro k i hd hk hi
    obtain ⟨k, rfl⟩ : ∃ m, k = m + 1 := ⟨k - 1, by omega⟩
    simp only [field_ValidName.l0]
    rw [if_neg (by omega), List.drop_eq_nil_of_le (by omega)]; rfl
  | succ d ih =>
    intro k i hd hk hi
    obtain ⟨k, rfl⟩ : ∃ m, k = m + 1 := ⟨k - 1, by omega⟩
    simp only [field_ValidName.l0]
    have hlt : i < l.length := by omega
    have hw : wrap64 ((i : Int) + 1) = ((i + 1 : Nat) : Int) := by unfold wrap64; omega
    rw [if_pos (by omega), if_pos (by omega), if_pos (by omega), bt_mk l i hlt, letterF, List.drop_eq_getElem_cons hlt, List.all_cons]
    simp only [Option.bind_some]
    have hih := ih k (i + 1) (by omega) (by omega) (by omega)
    by_cases h1 : isLetterU l[i] = true
    · rw [if_pos h1, hw, hih]; simp [nameByte, h1]
    · rw [if_neg h1, digitF]
      simp only [Option.bind_some]
      by_cases h2 : isDigitU l[i] = true
      · rw [if_pos h2, hw, hih]; simp [nameByte, h2]
      · rw [if_neg h2]
        by_cases h3 : l[i] = 45
        · rw [if_pos ((byte45 _).2 h3), hw, hih]; simp [nameByte, h3]
        · rw [if_neg (fun h => h3 ((byte45 _).1 h))]; simp [nameByte, h1, h2, h3]
theorem validNameM (l : List UInt8) (hl : l.length ≤ 1100000) : field_ValidName.f (l.length + 2) (mkS l) = some (validNameL l) := by
  have hs := mkS_size l
  unfold field_ValidName.f
  rw [toList_mk]
  have hj : ∀ b, field_ValidName.j0 (l.length + 2) (mkS l) b = if b = true then some false else some (l.all nameByte) := by
    intro b
    simp only [field_ValidName.j0]
    split
    · rfl
    · rw [hs]; exact validLoopM l hl l.length _ 0 (by omega) (by omega) (by omega)
  by_cases h0 : l = []
  · subst h0; rw [if_pos rfl, hj]; rfl
  · rw [if_neg h0]; simp only [hj]
    have hpos := List.length_pos_iff.2 h0
    unfold validNameL
    by_cases h1 : 40 < l.length
    · rw [if_pos (by omega), decide_eq_false (by omega)]; rfl
    · rw [if_neg (by omega), if_pos (by omega), decide_eq_true (by omega)]
      have := bt_mk l 0 hpos
      rw [show ((0 : Nat) : Int) = 0 from rfl] at this
      rw [this, letterF]
      simp only [Option.bind_some]
      cases l with
      | nil => exact absurd rfl h0
      | cons c r =>
        simp only [List.getElem_cons_zero]
        rcases Bool.eq_false_or_eq_true (isLetterU c) with hc | hc <;> simp [hc]
theorem field_ValidName_le (l : List UInt8) (hl : l.length ≤ 1100000) (k : Nat) (hk : l.length + 2 ≤ k) : field_ValidName.f k (mkS l) = some (validNameL l) := by
  obtain ⟨m, rfl⟩ : ∃ m, k = l.length + 2 + m := ⟨k - (l.length + 2), by omega⟩
  have h := validNameM l hl
  clear hk
  induction m with
  | zero => exact h
  | succ m ih => exact field_ValidName.mono _ _ _ ih

theorem mn_nat (a b : Nat) : mn (a : Int) (b : Int) = ((min a b : Nat) : Int) := by unfold mn; split <;> omega
end Go.Proofs.YtfeciafdioepiaaGreatDoor

/- Plain: what the printed functions of the reference compute, for all large numbers of rounds: Words, Printable, Squeeze, Check, Fold. -/
namespace Go.Proofs.YtfeciafdioepiaaGreatDoor
open Go.RowKit Go.Proofs Go.Proofs.YtfeciafdioepiaaGreatDoorW.PrintWords Go.Proofs.YtfeciafdioepiaaGreatDoor.PA

/-- From some number of rounds on. -/
def Ev {α : Type} (f : Nat → Option α) (r : α) : Prop := ∃ K, ∀ k, K ≤ k → f k = some r
section
variable {α β : Type}
theorem Ev.const {o : Option α} {r : α} (h : o = some r) : Ev (fun _ => o) r := ⟨0, fun _ _ => h⟩
theorem Ev.bind {f : Nat → Option α} {g : Nat → α → Option β} {a : α} {r : β} (h : Ev f a) (k : Ev (fun n => g n a) r) : Ev (fun n => (f n).bind (g n)) r := by
  obtain ⟨K, h⟩ := h
  obtain ⟨K', k⟩ := k
  refine ⟨max K K', fun n hn => ?_⟩
  show (f n).bind (g n) = some r
  rw [h n (by omega), Option.bind_some]
  exact k n (by omega)
theorem Ev.ite_pos {c : Prop} [Decidable c] {f g : Nat → Option α} {r : α} (h : c) (k : Ev f r) : Ev (fun n => if c then f n else g n) r := by
  simpa [h] using k
theorem Ev.ite_neg {c : Prop} [Decidable c] {f g : Nat → Option α} {r : α} (h : ¬ c) (k : Ev g r) : Ev (fun n => if c then f n else g n) r := by
  simpa [h] using k
theorem Ev.next {f : Nat → Option α} {r : α} (h : Ev (fun n => f (n + 1)) r) : Ev f r := by
  obtain ⟨K, h⟩ := h
  refine ⟨K + 1, fun n hn => ?_⟩
  obtain ⟨m, rfl⟩ : ∃ m, n = m + 1 := ⟨n - 1, by omega⟩
  exact h m (by omega)
theorem Ev.is {f : Nat → Option α} {r r' : α} (h : Ev f r) (e : r = r') : Ev f r' := e ▸ h
theorem Ev.same {f g : Nat → Option α} {r : α} (h : Ev g r) (e : ∀ n, f n = g n) : Ev f r := by
  obtain ⟨K, h⟩ := h
  exact ⟨K, fun n hn => (e n).trans (h n hn)⟩
theorem Ev.rpos {c : Prop} [Decidable c] {f : Nat → Option α} {a b : α} (h : c) (k : Ev f a) : Ev f (if c then a else b) := by rw [if_pos h]; exact k
theorem Ev.rneg {c : Prop} [Decidable c] {f : Nat → Option α} {a b : α} (h : ¬ c) (k : Ev f b) : Ev f (if c then a else b) := by rw [if_neg h]; exact k
theorem Ev.at_ {f : Nat → Option α} {r : α} (h : Ev f r) : ∃ k, f k = some r := by
  obtain ⟨K, h⟩ := h
  exact ⟨K, h K (Nat.le_refl _)⟩
end

theorem rBlankF (c : UInt8) : bulletinref01_Blank.f (c.toNat : Int) = some (isBlank c) := by
  refine all_u8 (P := fun c => bulletinref01_Blank.f (c.toNat : Int) = some (isBlank c)) ?_ c
  decide +kernel
def visU (c : UInt8) : Bool := decide (33 ≤ c) && decide (c ≤ 126)
theorem rVisF (c : UInt8) : bulletinref01_Visible.f (c.toNat : Int) = some (visU c) := by
  refine all_u8 (P := fun c => bulletinref01_Visible.f (c.toNat : Int) = some (visU c)) ?_ c
  decide +kernel
theorem wrap_nat (i : Nat) (h : i < 100000000000000) : wrap64 ((i : Int) + 1) = ((i + 1 : Nat) : Int) := by unfold wrap64; omega

theorem wrap_add (a b : Nat) (h : a + b < 100000000000000) : wrap64 ((a : Int) + (b : Int)) = ((a + b : Nat) : Int) := by unfold wrap64; omega
theorem rd25 (l : List S78) (i : Nat) (h : i < l.length) : rd_T78 l (i : Int) = l[i] := by
  unfold rd_T78; rw [Int.toNat_natCast, List.getD_eq_getElem?_getD, List.getElem?_eq_getElem h]; rfl
/-! ### Words -/
/-! ### Printable -/
/-! ### Squeeze -/
theorem joinW_snoc (ws : List (List UInt8)) (x : List UInt8) (h : ws ≠ []) : joinW (ws ++ [x]) = joinW ws ++ ([32] ++ x) := by
  unfold joinW
  induction ws with
  | nil => exact absurd rfl h
  | cons a t ih =>
    cases t with
    | nil => simp [List.intercalate]
    | cons b t =>
      have := ih (by simp)
      simp only [List.cons_append] at this ⊢
      rw [List.intercalate_cons_cons, this, List.intercalate_cons_cons]
      simp
end Go.Proofs.YtfeciafdioepiaaGreatDoor

/- Plain: Check and Fold of the program. -/
namespace Go.Proofs.YtfeciafdioepiaaGreatDoor
open Go.RowKit Go.Proofs Go.Proofs.YtfeciafdioepiaaGreatDoorW.PrintWords Go.Proofs.YtfeciafdioepiaaGreatDoor.PA

def longAny (b : List UInt8) : Bool := (wordsL b).any fun x => decide (900 < x.length)
def checkL (n b : List UInt8) : Int := if validNameL n = true then (if printableZ b ≥ 0 then 6 else if joinW (wordsL b) = b then (if 8192 < b.length then 5 else if longAny b = true then 5 else 0) else 3) else 12

theorem any_long (b : List UInt8) : ((wordsL b).map mkS).any (fun x => decide (900 < x.size)) = longAny b := by
  unfold longAny
  rw [List.any_map]
  congr 1

theorem wordsB_mk (b : List UInt8) : wordsB (mkS b) = (wordsL b).map mkS := by unfold wordsB; rw [mkS_toList]
theorem checkF (n b : List UInt8) (hn : n.length ≤ 1100000) (hb : b.length ≤ 1100000) : Ev (fun k => PB.field_Field_Check.f k (mkS n) (mkS b)) (checkL n b) := by
  have hbs := mkS_size b
  have h5 := wordsL_len b
  have h6 := wordsL_sum b
  unfold PB.field_Field_Check.f checkL
  refine Ev.bind (a := (wordsL b).map mkS) (Ev.const (by unfold GV.Words.f; rw [if_pos (by omega), wordsB_mk])) ?_
  refine Ev.bind ⟨n.length + 2, fun k hk => field_ValidName_le n hn k hk⟩ ?_
  by_cases h1 : validNameL n = true
  · refine Ev.rpos h1 ?_
    refine Ev.ite_pos h1 (Ev.bind (a := printableZ b) (Ev.const (by unfold GV.Printable.f; rw [if_pos (by omega), mkS_toList])) ?_)
    by_cases h2 : printableZ b ≥ 0
    · refine Ev.rpos h2 ?_; exact Ev.ite_pos h2 (Ev.const rfl)
    · refine Ev.rneg h2 ?_
      have hj : joinB ((wordsL b).map mkS) ⟨#[32]⟩ = mkS (joinW (wordsL b)) := joinB_mk _
      have hjl := joinW_len (wordsL b)
      have hJ : GV.Join.f ((wordsL b).map mkS) ⟨#[32]⟩ = some (mkS (joinW (wordsL b))) := by
        unfold GV.Join.f
        rw [hj, if_pos ⟨by rw [List.length_map]; omega, by rw [mkS_size]; omega⟩]
      refine Ev.ite_neg h2 (Ev.bind (Ev.const hJ) ?_)
      rw [toList_mk, toList_mk]
      by_cases h3 : joinW (wordsL b) = b
      · refine Ev.rpos h3 ?_
        refine Ev.ite_pos h3 ?_
        rw [mkS_size]
        by_cases h4 : 8192 < b.length
        · refine Ev.rpos h4 ?_; exact Ev.ite_pos (by omega) (Ev.const rfl)
        · refine Ev.rneg h4 ?_
          have hS : GV.someLong.f ((wordsL b).map mkS) (Value.func (.func 120) #[] #[]) = some (longAny b) := by
            unfold GV.someLong.f
            rw [if_pos ⟨by rw [List.length_map]; omega, rfl⟩, any_long]
          refine Ev.ite_neg (by omega) (Ev.bind (Ev.const hS) ?_)
          by_cases h7 : longAny b = true
          · refine Ev.rpos h7 ?_; exact Ev.ite_pos h7 (Ev.const rfl)
          · refine Ev.rneg h7 ?_; exact Ev.ite_neg h7 (Ev.const rfl)
      · refine Ev.rneg h3 ?_; exact Ev.ite_neg h3 (Ev.const rfl)
  · refine Ev.rneg h1 ?_; exact Ev.ite_neg h1 (Ev.const rfl)

theorem check_small {n b : List UInt8} (h : checkL n b = 0) : n.length ≤ 40 ∧ b.length ≤ 8192 := by
  unfold checkL at h
  split at h
  · rename_i h1
    split at h
    · cases h
    · split at h
      · split at h
        · cases h
        · rename_i h4
          unfold validNameL at h1
          simp only [Bool.and_eq_true] at h1
          exact ⟨of_decide_eq_true h1.1.1, Nat.le_of_not_lt h4⟩
      · cases h
  · cases h
theorem foldF (n b : List UInt8) (hn : n.length ≤ 1100000) (hb : b.length ≤ 1100000) : Ev (fun k => GV.Fold.f k (mkS n) (mkS b)) (if checkL n b = 0 then (mkS (foldL n b), 0) else (⟨#[]⟩, checkL n b)) := by
  unfold GV.Fold.f
  refine Ev.bind (checkF n b hn hb) ?_
  by_cases h : checkL n b = 0
  · refine Ev.rpos h ?_
    refine Ev.ite_pos h (Ev.ite_pos ⟨by rw [mkS_size]; have := (check_small h).1; omega, by rw [mkS_size]; have := (check_small h).2; omega⟩ (Ev.const ?_))
    rw [mkS_toList, mkS_toList]
  · refine Ev.rneg h ?_; exact Ev.ite_neg h (Ev.const rfl)

end Go.Proofs.YtfeciafdioepiaaGreatDoor
