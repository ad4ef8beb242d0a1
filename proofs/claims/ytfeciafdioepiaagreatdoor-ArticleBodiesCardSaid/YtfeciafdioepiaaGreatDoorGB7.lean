/- The row of ArticleBodies over the listed tables, and its tied card. -/
import Derived.Test.YtfeciafdioepiaaGreatDoorGB6
import Derived.Test.YtfeciafdioepiaaGreatDoorProg
import Derived.Below
import Derived.Deep.Draws
import Derived.Deep.AppendLies
import Derived.Maps.AppendAt
import Derived.OwnWalk
import Derived.Laws.BytesArg
import Derived.Laws.MakeOwn
import Derived.Laws.OwnMore
import Derived.Deep.OwnRows
import Derived.Tactics
import Derived.Lib.ConvBytes
import Derived.Laws.Slices
import Derived.WalkKit
import Derived.KernelRfl
import Derived.RowKit3
import Derived.Deep.LoopGhost
import Derived.Deep.QuietTactic
import Derived.BigQuiet
import Derived.WideLaws
import Derived.Deep.DeepCutAuto
import Derived.Deep.CutBlock
import Derived.Deep.RegionHeld3
import Derived.Laws.Rows
import Derived.Lib.AppendStr
import Derived.ArgAppend
import Derived.Laws.IdiomCopy
import Derived.OrdersHeld
import Derived.Laws.BitsLemmas
import Derived.RowKit
import Derived.Test.YtfeciafdioepiaaGreatDoorGB0
import Derived.Test.YtfeciafdioepiaaGreatDoorGB3
import Derived.Test.YtfeciafdioepiaaGreatDoorGB5
import Derived.Test.YtfeciafdioepiaaGreatDoorGB4
import Derived.Test.YtfeciafdioepiaaGreatDoorWWords
import Derived.Test.YtfeciafdioepiaaGreatDoorWLast
import Derived.Test.YtfeciafdioepiaaGreatDoorWTab
import Derived.Test.YtfeciafdioepiaaGreatDoorWFour
import Derived.Test.YtfeciafdioepiaaGreatDoorWQPut
import Derived.Test.YtfeciafdioepiaaGreatDoorWApart
import Derived.Test.YtfeciafdioepiaaGreatDoorWArr
import Derived.Test.YtfeciafdioepiaaGreatDoorWZeros
import Derived.Test.YtfeciafdioepiaaGreatDoorWFoot
import Derived.Test.YtfeciafdioepiaaGreatDoorWKept
import Derived.Test.YtfeciafdioepiaaGreatDoorWShare
import Derived.Test.YtfeciafdioepiaaGreatDoorWN
import Derived.Test.YtfeciafdioepiaaGreatDoorWFootNe
import Derived.Test.YtfeciafdioepiaaGreatDoorWAt
import Derived.Test.YtfeciafdioepiaaGreatDoorWEqStruct
import Derived.Test.YtfeciafdioepiaaGreatDoorWRepsOne
import Derived.Test.YtfeciafdioepiaaGreatDoorWInv
import Derived.Test.YtfeciafdioepiaaGreatDoorWInvWords
import Derived.Test.YtfeciafdioepiaaGreatDoorWGuard
import Derived.Test.YtfeciafdioepiaaGreatDoorWNEv
import Derived.Test.YtfeciafdioepiaaGreatDoorWMore
import Derived.Test.YtfeciafdioepiaaGreatDoorRows
import Derived.Test.YtfeciafdioepiaaGreatDoorCards
import Derived.Test.YtfeciafdioepiaaGreatDoorTie
import Derived.ProofKit
import Derived.OpenShut
import Derived.ShutString
import Derived.ChangeOld
import Derived.SizedLaws
import Derived.HandedShaped
set_option linter.unusedVariables false
set_option linter.unusedSimpArgs false
namespace Go.Proofs.YtfeciafdioepiaaGreatDoor
open Go.RowKit Go.Shelf Go.Proofs Go.Proofs.YtfeciafdioepiaaGreatDoorW.PrintWords Go.Proofs.YtfeciafdioepiaaGreatDoorW.PrintMore Go.Proofs.YtfeciafdioepiaaGreatDoor.PA
attribute [local go_sem] Oper.semAt_some
set_option maxHeartbeats 4000000 in
set_option maxRecDepth 100000 in
theorem known_any (w : World) (hgm : Gm w) : Calls Tryz.prog 14 #[] w fun e w' => e = .returned (.bool true) ∧ Below w.heap.size w w' := by
  have hu76 := Tryz.underlying76
  have HGM := Aside0.mk hgm
  clear hgm
  go_enter Tryz.func14, Tryz.ntmps14
  go_wp2_with fail
  refine (GV.AParse.calls 60 _ _ _ _ _ _ HGM.out kn1).mono ?_
  rintro e w1 ⟨v1, rfl, hR1, hb1⟩
  obtain ⟨g, c1, rfl⟩ : ∃ g c, v1 = .slice (some ⟨g, 0, none⟩) knF.length c := by
    obtain ⟨inner, ho⟩ := Kd.R_own hR1
    rcases ho.2 with ⟨_, h0⟩ | ⟨g, c, cur, hv, _⟩
    · exact absurd h0 (by decide)
    · exact ⟨g, c, hv⟩
  have HR1 := Aside0.mk (Kd.R_alloc hR1 (.cells #[.slice (some ⟨g, 0, none⟩) knF.length c1, .string ⟨#[104, 101, 108, 108, 111, 10]⟩] 25))
  have HA1 := Aside0.mk (blk_new w1 (.cells #[.slice (some ⟨g, 0, none⟩) knF.length c1, .string ⟨#[104, 101, 108, 108, 111, 10]⟩] 25))
  have HB1 := Aside0.mk (below_alloc hb1 (.cells #[.slice (some ⟨g, 0, none⟩) knF.length c1, .string ⟨#[104, 101, 108, 108, 111, 10]⟩] 25))
  have HGM1 := Aside0.mk (gm_at (gm_at HGM.out hb1) ((Below.refl _ _).alloc (Nat.le_refl _) (.cells #[.slice (some ⟨g, 0, none⟩) knF.length c1, .string ⟨#[104, 101, 108, 108, 111, 10]⟩] 25)))
  clear hR1 hb1
  go_wp2_with fail
  refine (PC.article_Print.calls 60 (some ⟨g, 0, none⟩) c1 knF _ _ _ _ (Kd.R_reads' HR1.out).2.2 (Kd.R_reads' HR1.out).2.1 kn2).mono ?_
  rintro e w2 ⟨rfl, hb2⟩
  have HB2 := Aside0.mk (HB1.out.trans (hb2.mono HB1.out.size))
  have HR2 := Aside0.mk (Kd.R_below HR1.out hb2)
  have HA2 := Aside0.mk (blk_below HA1.out hb2)
  have HGM2 := Aside0.mk (gm_at HGM1.out hb2)
  clear hb2 HR1 HA1 HB1 HGM1
  go_wp2_with fail
  refine (GV.AParse.calls 60 _ _ _ _ _ _ HGM2.out kn3).mono ?_
  rintro e w3 ⟨v3, rfl, hR3, hb3⟩
  obtain ⟨A3, c3, e3⟩ := Kd.R_slice hR3
  subst e3
  have HB3 := Aside0.mk (HB2.out.trans (hb3.mono HB2.out.size))
  have HR3 := Aside0.mk (Kd.R_below HR2.out hb3)
  have HA3 := Aside0.mk (blk_below HA2.out hb3)
  clear hR3 hb3 HB2 HR2 HA2 HGM2
  go_wp2_with fail
  refine (GV.Quote.calls 60 _ _ _ _ kn4).mono ?_
  rintro e w4 ⟨rfl, hb4⟩
  have HB4 := Aside0.mk ((below_alloc HB3.out (.cells #[.slice A3 0 c3, .string ⟨#[]⟩] 25)).trans (hb4.mono (below_alloc HB3.out _).size))
  have HA4 := Aside0.mk (blk_below (blk_alloc HA3.out (.cells #[.slice A3 0 c3, .string ⟨#[]⟩] 25)) hb4)
  have hR4 := Kd.R_below (Kd.R_alloc HR3.out (.cells #[.slice A3 0 c3, .string ⟨#[]⟩] 25)) hb4
  obtain ⟨ad, e5, hx0, hx1⟩ := at_T76 (Kd.R_reads' hR4).2.2 0 (by decide) (by decide)
  injection e5 with e5
  subst e5
  have hx0' : w4.cell? ⟨g, 0, none⟩ = some (.string ⟨#[83, 117, 98, 106, 101, 99, 116]⟩) := hx0
  have hx1' : w4.cell? ⟨g, 1, none⟩ = some (.string ⟨#[97]⟩) := hx1
  have ha0 : w4.cell? ⟨w1.heap.size, 0, none⟩ = some (.slice (some ⟨g, 0, none⟩) 1 c1) := (blk_cell HA4.out 0).trans rfl
  have ha1 : w4.cell? ⟨w1.heap.size, 1, none⟩ = some (.string ⟨#[104, 101, 108, 108, 111, 10]⟩) := (blk_cell HA4.out 1).trans rfl
  clear hR4 hb4 HR3 HA3 HB3 hx0 hx1
  go_wp2_with fail
  refine (level_any ⟨#[62, 62, 32, 120]⟩ _ (by decide)).mono ?_
  rintro e w5 ⟨rfl, hd⟩
  obtain ⟨n5, rfl⟩ := hd.1
  have e1 : (⟨#[62, 62, 32, 120]⟩ : ByteArray).data.toList = [62, 62, 32, 120] := rfl
  rw [e1, kn5.1, kn5.2]
  have e2 : mkS [120] = ⟨#[120]⟩ := rfl
  rw [e2]
  clear e1 e2 hd
  have HCT := Lib.hid (fun w => count_any ⟨#[97, 10, 98]⟩ w (by decide))
  go_wp2_with (go_at_call 39; refine (HCT.out _).mono ?_; rintro e w6 ⟨he, hb6⟩; rw [show (linesU (⟨#[97, 10, 98]⟩ : ByteArray).data.toList).length = 2 from kn6] at he; subst he; have HB6 := Aside0.mk ((pw_below_drewN HB4.out n5).trans (hb6.mono HB4.out.size)); clear hb6)
  go_ret
  exact ⟨rfl, HB6.out⟩
theorem GV.known.calls (r : Bool) (w : World) (hgm : Gm w) (h : GV.known.f = some r) : Calls Tryz.prog 14 #[] w fun e w' => e = .returned (.bool r) ∧ Below w.heap.size w w' := by
  injection h with h
  subst h
  exact known_any w hgm
end Go.Proofs.YtfeciafdioepiaaGreatDoor
namespace Go.Proofs.YtfeciafdioepiaaGreatDoor.PL
open Go.Proofs.YtfeciafdioepiaaGreatDoor.PA
open Go.Proofs.YtfeciafdioepiaaGreatDoor
open Go.RowKit Go.Proofs.YtfeciafdioepiaaGreatDoorW.PrintWords Go.Proofs.YtfeciafdioepiaaGreatDoorW.PrintLast Go.Proofs.YtfeciafdioepiaaGreatDoorW.PrintMore
attribute [local go_sem] max2_int min2_int max_two min_two max_three min_three max_four min_four   -- for this text's walks alone
set_option linter.unusedVariables false
set_option linter.unusedSimpArgs false

/-! ### bulletinlaw15_ArticleBodies: function 4 -/
def bulletinlaw15_ArticleBodies.f (k : Nat) (a0 : ByteArray) : Option (Bool) := (PA.bulletinlaw15_short.f a0 4000).bind fun t101 => ((PC.article_CheckBody.f k t101).bind fun bt102 => ((PA.bulletinref15_Body.f k t101).bind fun bt104 => ((GV.known.f).bind fun t106 => (if t106 = true then (if bt102.1 = bt104.1 then (some (bt102.2 == bt104.2)) else (some false)) else (some false)))))
set_option maxHeartbeats 8000000 in
set_option maxRecDepth 100000 in
theorem bulletinlaw15_ArticleBodies.calls (k : Nat) (a0 : ByteArray) (r : Bool) (w : World) (hgm : Gm w) (h : bulletinlaw15_ArticleBodies.f k a0 = some r) :
    Calls Tryz.prog 4 #[.string a0] w fun e w' => e = .returned (.bool r) ∧ Below w.heap.size w w' := by
  have HGM := Aside0.mk hgm
  clear hgm
  have HB := Aside0.mk (Below.refl w.heap.size w)
  have H : ((PA.bulletinlaw15_short.f a0 4000).bind fun t101 => ((PC.article_CheckBody.f k t101).bind fun bt102 => ((PA.bulletinref15_Body.f k t101).bind fun bt104 => ((GV.known.f).bind fun t106 => (if t106 = true then (if bt102.1 = bt104.1 then (some (bt102.2 == bt104.2)) else (some false)) else (some false)))))) = some r := h
  clear h
  replace H := Option.bind_eq_some_iff.mp H
  obtain ⟨t101, A20, H⟩ := H
  replace H : ((PC.article_CheckBody.f k t101).bind fun bt102 => ((PA.bulletinref15_Body.f k t101).bind fun bt104 => ((GV.known.f).bind fun t106 => (if t106 = true then (if bt102.1 = bt104.1 then (some (bt102.2 == bt104.2)) else (some false)) else (some false))))) = some r := H
  have A2 := Aside0.mk A20
  clear A20
  replace H := Option.bind_eq_some_iff.mp H
  obtain ⟨⟨t102, t103⟩, A30, H⟩ := H
  replace H : ((PA.bulletinref15_Body.f k t101).bind fun bt104 => ((GV.known.f).bind fun t106 => (if t106 = true then (if t102 = bt104.1 then (some (t103 == bt104.2)) else (some false)) else (some false)))) = some r := H
  have A3 := Aside0.mk A30
  clear A30
  replace H := Option.bind_eq_some_iff.mp H
  obtain ⟨⟨t104, t105⟩, A40, H⟩ := H
  replace H : ((GV.known.f).bind fun t106 => (if t106 = true then (if t102 = t104 then (some (t103 == t105)) else (some false)) else (some false))) = some r := H
  have A4 := Aside0.mk A40
  clear A40
  replace H := Option.bind_eq_some_iff.mp H
  obtain ⟨t106, A50, H⟩ := H
  replace H : (if t106 = true then (if t102 = t104 then (some (t103 == t105)) else (some false)) else (some false)) = some r := H
  have A5 := Aside0.mk A50
  clear A50
  by_cases c6 : t106 = true
  · subst c6
    have H1 : (if t102 = t104 then (some (t103 == t105)) else (some false)) = some r := by rw [if_pos rfl] at H; exact H
    clear H
    have H := H1
    clear H1
    by_cases c7 : t102 = t104
    · rw [if_pos c7] at H
      have c7b0 : (t102 == t104) = true := beq_iff_eq.mpr c7
      have c7b1 : (t102 != t104) = false := bne_eq_false_iff_eq.mpr c7
      clear c7
      obtain rfl := Option.some.inj H
      go_enter Tryz.func4, Tryz.ntmps4
      go_wp2_with (first | ((with_reducible refine gate_callee (f := 11) rfl ?_); refine goesL_ (some 8) rfl rfl Tryz.func11 (by kernel_rfl) rfl #[.string a0, .int .i64 4000] rfl (by (try simp only [List.map_toArray, List.map_cons, List.map_nil]); first | done | rfl | (simp only [List.length_drop, List.length_take]; rfl)) ?_; (with_reducible refine (PA.bulletinlaw15_short.calls a0 4000 t101 _ A2.out).mono ?_); rintro e w8 ⟨rfl, hb⟩; refine ⟨_, rfl, ?_⟩; have n0_ := Aside0.mk (below_step (by repeat (first | (with_reducible first | exact HB.out | apply below_alloc | apply pw_below_drewN | apply below_drew1) | exact HB.out)) hb); clear HB; have HB := n0_; clear n0_; (try clear hb); (try clear hb2); (try clear hk); (try clear hi)) | ((with_reducible refine gate_callee (f := 17) rfl ?_); refine goesL_ (some 11) rfl rfl Tryz.func17 (by kernel_rfl) rfl #[.string t101] rfl (by (try simp only [List.map_toArray, List.map_cons, List.map_nil]); first | done | rfl | (simp only [List.length_drop, List.length_take]; rfl)) ?_; (with_reducible refine (PC.article_CheckBody.calls k t101 t102 t103 _ A3.out).mono ?_); rintro e w9 ⟨rfl, hb⟩; refine ⟨_, rfl, ?_⟩; have n0_ := Aside0.mk (below_step (by repeat (first | (with_reducible first | exact HB.out | apply below_alloc | apply pw_below_drewN | apply below_drew1) | exact HB.out)) hb); clear HB; have HB := n0_; clear n0_; (try clear hb); (try clear hb2); (try clear hk); (try clear hi)) | ((with_reducible refine gate_callee (f := 18) rfl ?_); refine goesL_ (some 16) rfl rfl Tryz.func18 (by kernel_rfl) rfl #[.string t101] rfl (by (try simp only [List.map_toArray, List.map_cons, List.map_nil]); first | done | rfl | (simp only [List.length_drop, List.length_take]; rfl)) ?_; (with_reducible refine (PA.bulletinref15_Body.calls k t101 t104 t105 _ A4.out).mono ?_); rintro e w10 ⟨rfl, hb⟩; refine ⟨_, rfl, ?_⟩; have n0_ := Aside0.mk (below_step (by repeat (first | (with_reducible first | exact HB.out | apply below_alloc | apply pw_below_drewN | apply below_drew1) | exact HB.out)) hb); clear HB; have HB := n0_; clear n0_; (try clear hb); (try clear hb2); (try clear hk); (try clear hi)) | ((with_reducible refine gate_callee (f := 14) rfl ?_); refine goesL_ (some 19) rfl rfl Tryz.func14 (by kernel_rfl) rfl #[] rfl (by (try simp only [List.map_toArray, List.map_cons, List.map_nil]); first | done | rfl | (simp only [List.length_drop, List.length_take]; rfl)) ?_; (with_reducible refine (GV.known.calls  true _ ?side1 A5.out).mono ?_); (case side1 => exact gm_at HGM.out (by repeat (first | (with_reducible first | exact HB.out | apply below_alloc | apply pw_below_drewN | apply below_drew1) | exact HB.out))); rintro e w11 ⟨rfl, hb⟩; refine ⟨_, rfl, ?_⟩; have n0_ := Aside0.mk (below_step (by repeat (first | (with_reducible first | exact HB.out | apply below_alloc | apply pw_below_drewN | apply below_drew1) | exact HB.out)) hb); clear HB; have HB := n0_; clear n0_; (try clear hb); (try clear hb2); (try clear hk); (try clear hi)))
      go_ret
      exact ⟨by first | rfl | (simp [errW_none, errW_some] <;> rfl) | (simp [*, errW_none, errW_some] <;> rfl), by repeat (first | (with_reducible first | exact HB.out | apply below_alloc | apply pw_below_drewN | apply below_drew1) | exact HB.out)⟩
    · rw [if_neg c7] at H
      have c7b0 : (t102 == t104) = false := beq_eq_false_iff_ne.mpr c7
      have c7b1 : (t102 != t104) = true := bne_iff_ne.mpr c7
      obtain rfl := Option.some.inj H
      go_enter Tryz.func4, Tryz.ntmps4
      go_wp2_with (first | ((with_reducible refine gate_callee (f := 11) rfl ?_); refine goesL_ (some 8) rfl rfl Tryz.func11 (by kernel_rfl) rfl #[.string a0, .int .i64 4000] rfl (by (try simp only [List.map_toArray, List.map_cons, List.map_nil]); first | done | rfl | (simp only [List.length_drop, List.length_take]; rfl)) ?_; (with_reducible refine (PA.bulletinlaw15_short.calls a0 4000 t101 _ A2.out).mono ?_); rintro e w12 ⟨rfl, hb⟩; refine ⟨_, rfl, ?_⟩; have n0_ := Aside0.mk (below_step (by repeat (first | (with_reducible first | exact HB.out | apply below_alloc | apply pw_below_drewN | apply below_drew1) | exact HB.out)) hb); clear HB; have HB := n0_; clear n0_; (try clear hb); (try clear hb2); (try clear hk); (try clear hi)) | ((with_reducible refine gate_callee (f := 17) rfl ?_); refine goesL_ (some 11) rfl rfl Tryz.func17 (by kernel_rfl) rfl #[.string t101] rfl (by (try simp only [List.map_toArray, List.map_cons, List.map_nil]); first | done | rfl | (simp only [List.length_drop, List.length_take]; rfl)) ?_; (with_reducible refine (PC.article_CheckBody.calls k t101 t102 t103 _ A3.out).mono ?_); rintro e w13 ⟨rfl, hb⟩; refine ⟨_, rfl, ?_⟩; have n0_ := Aside0.mk (below_step (by repeat (first | (with_reducible first | exact HB.out | apply below_alloc | apply pw_below_drewN | apply below_drew1) | exact HB.out)) hb); clear HB; have HB := n0_; clear n0_; (try clear hb); (try clear hb2); (try clear hk); (try clear hi)) | ((with_reducible refine gate_callee (f := 18) rfl ?_); refine goesL_ (some 16) rfl rfl Tryz.func18 (by kernel_rfl) rfl #[.string t101] rfl (by (try simp only [List.map_toArray, List.map_cons, List.map_nil]); first | done | rfl | (simp only [List.length_drop, List.length_take]; rfl)) ?_; (with_reducible refine (PA.bulletinref15_Body.calls k t101 t104 t105 _ A4.out).mono ?_); rintro e w14 ⟨rfl, hb⟩; refine ⟨_, rfl, ?_⟩; have n0_ := Aside0.mk (below_step (by repeat (first | (with_reducible first | exact HB.out | apply below_alloc | apply pw_below_drewN | apply below_drew1) | exact HB.out)) hb); clear HB; have HB := n0_; clear n0_; (try clear hb); (try clear hb2); (try clear hk); (try clear hi)) | ((with_reducible refine gate_callee (f := 14) rfl ?_); refine goesL_ (some 19) rfl rfl Tryz.func14 (by kernel_rfl) rfl #[] rfl (by (try simp only [List.map_toArray, List.map_cons, List.map_nil]); first | done | rfl | (simp only [List.length_drop, List.length_take]; rfl)) ?_; (with_reducible refine (GV.known.calls  true _ ?side1 A5.out).mono ?_); (case side1 => exact gm_at HGM.out (by repeat (first | (with_reducible first | exact HB.out | apply below_alloc | apply pw_below_drewN | apply below_drew1) | exact HB.out))); rintro e w15 ⟨rfl, hb⟩; refine ⟨_, rfl, ?_⟩; have n0_ := Aside0.mk (below_step (by repeat (first | (with_reducible first | exact HB.out | apply below_alloc | apply pw_below_drewN | apply below_drew1) | exact HB.out)) hb); clear HB; have HB := n0_; clear n0_; (try clear hb); (try clear hb2); (try clear hk); (try clear hi)))
      go_ret
      exact ⟨by first | rfl | (simp [errW_none, errW_some] <;> rfl) | (simp [*, errW_none, errW_some] <;> rfl), by repeat (first | (with_reducible first | exact HB.out | apply below_alloc | apply pw_below_drewN | apply below_drew1) | exact HB.out)⟩
  · replace c6 := Bool.eq_false_iff.mpr c6
    subst c6
    have H1 : (some false) = some r := by rw [if_neg (show ¬ (false = true) by decide)] at H; exact H
    clear H
    have H := H1
    clear H1
    obtain rfl := Option.some.inj H
    go_enter Tryz.func4, Tryz.ntmps4
    go_wp2_with (first | ((with_reducible refine gate_callee (f := 11) rfl ?_); refine goesL_ (some 8) rfl rfl Tryz.func11 (by kernel_rfl) rfl #[.string a0, .int .i64 4000] rfl (by (try simp only [List.map_toArray, List.map_cons, List.map_nil]); first | done | rfl | (simp only [List.length_drop, List.length_take]; rfl)) ?_; (with_reducible refine (PA.bulletinlaw15_short.calls a0 4000 t101 _ A2.out).mono ?_); rintro e w16 ⟨rfl, hb⟩; refine ⟨_, rfl, ?_⟩; have n0_ := Aside0.mk (below_step (by repeat (first | (with_reducible first | exact HB.out | apply below_alloc | apply pw_below_drewN | apply below_drew1) | exact HB.out)) hb); clear HB; have HB := n0_; clear n0_; (try clear hb); (try clear hb2); (try clear hk); (try clear hi)) | ((with_reducible refine gate_callee (f := 17) rfl ?_); refine goesL_ (some 11) rfl rfl Tryz.func17 (by kernel_rfl) rfl #[.string t101] rfl (by (try simp only [List.map_toArray, List.map_cons, List.map_nil]); first | done | rfl | (simp only [List.length_drop, List.length_take]; rfl)) ?_; (with_reducible refine (PC.article_CheckBody.calls k t101 t102 t103 _ A3.out).mono ?_); rintro e w17 ⟨rfl, hb⟩; refine ⟨_, rfl, ?_⟩; have n0_ := Aside0.mk (below_step (by repeat (first | (with_reducible first | exact HB.out | apply below_alloc | apply pw_below_drewN | apply below_drew1) | exact HB.out)) hb); clear HB; have HB := n0_; clear n0_; (try clear hb); (try clear hb2); (try clear hk); (try clear hi)) | ((with_reducible refine gate_callee (f := 18) rfl ?_); refine goesL_ (some 16) rfl rfl Tryz.func18 (by kernel_rfl) rfl #[.string t101] rfl (by (try simp only [List.map_toArray, List.map_cons, List.map_nil]); first | done | rfl | (simp only [List.length_drop, List.length_take]; rfl)) ?_; (with_reducible refine (PA.bulletinref15_Body.calls k t101 t104 t105 _ A4.out).mono ?_); rintro e w18 ⟨rfl, hb⟩; refine ⟨_, rfl, ?_⟩; have n0_ := Aside0.mk (below_step (by repeat (first | (with_reducible first | exact HB.out | apply below_alloc | apply pw_below_drewN | apply below_drew1) | exact HB.out)) hb); clear HB; have HB := n0_; clear n0_; (try clear hb); (try clear hb2); (try clear hk); (try clear hi)) | ((with_reducible refine gate_callee (f := 14) rfl ?_); refine goesL_ (some 19) rfl rfl Tryz.func14 (by kernel_rfl) rfl #[] rfl (by (try simp only [List.map_toArray, List.map_cons, List.map_nil]); first | done | rfl | (simp only [List.length_drop, List.length_take]; rfl)) ?_; (with_reducible refine (GV.known.calls  false _ ?side1 A5.out).mono ?_); (case side1 => exact gm_at HGM.out (by repeat (first | (with_reducible first | exact HB.out | apply below_alloc | apply pw_below_drewN | apply below_drew1) | exact HB.out))); rintro e w19 ⟨rfl, hb⟩; refine ⟨_, rfl, ?_⟩; have n0_ := Aside0.mk (below_step (by repeat (first | (with_reducible first | exact HB.out | apply below_alloc | apply pw_below_drewN | apply below_drew1) | exact HB.out)) hb); clear HB; have HB := n0_; clear n0_; (try clear hb); (try clear hb2); (try clear hk); (try clear hi)))
    go_ret
    exact ⟨by first | rfl | (simp [errW_none, errW_some] <;> rfl) | (simp [*, errW_none, errW_some] <;> rfl), by repeat (first | (with_reducible first | exact HB.out | apply below_alloc | apply pw_below_drewN | apply below_drew1) | exact HB.out)⟩

/-- THE ONE PURE STATEMENT of bulletinlaw15_ArticleBodies: yours. -/
def bulletinlaw15_ArticleBodies.Pure : Prop := ∀ (a0 : ByteArray), a0.size ≤ 140737488351232 → ∃ k, bulletinlaw15_ArticleBodies.f k a0 = some true
theorem bulletinlaw15_ArticleBodies.walk (P : bulletinlaw15_ArticleBodies.Pure) (a0 : ByteArray) (w : World) (hgm : Gm w) (w0 : a0.size ≤ 140737488351232) :
    Calls Tryz.prog 4 #[.string a0] w fun e w' => e = .returned (.bool true) ∧ Below w.heap.size w w' := by
  obtain ⟨k, h⟩ := P a0 w0
  refine (bulletinlaw15_ArticleBodies.calls k a0 true w hgm h).mono ?_
  rintro e w' ⟨rfl, hd⟩
  exact ⟨rfl, hd⟩

/-! ### bulletinlaw15_ArticleParses: function 3 -/
end Go.Proofs.YtfeciafdioepiaaGreatDoor.PL
set_option linter.unusedVariables false
set_option linter.unusedSimpArgs false
/- The reference's ValidName as a function on lists. -/
namespace Go.Proofs.YtfeciafdioepiaaGreatDoor
open Go.RowKit Go.Proofs Go.Proofs.YtfeciafdioepiaaGreatDoorW.PrintWords Go.Proofs.YtfeciafdioepiaaGreatDoor.PA

theorem mn_nat (a b : Nat) : mn (a : Int) (b : Int) = ((min a b : Nat) : Int) := by unfold mn; split <;> omega
end Go.Proofs.YtfeciafdioepiaaGreatDoor

/- Plain: what the printed functions of the reference compute, for all large numbers of rounds: Words, Printable, Squeeze, Check, Fold. -/
namespace Go.Proofs.YtfeciafdioepiaaGreatDoor
open Go.RowKit Go.Proofs Go.Proofs.YtfeciafdioepiaaGreatDoorW.PrintWords Go.Proofs.YtfeciafdioepiaaGreatDoor.PA

/-- From some number of rounds on. -/
def Ev {α : Type} (f : Nat → Option α) (r : α) : Prop := ∃ K, ∀ k, K ≤ k → f k = some r
section
variable {α β : Type}
theorem Ev.const {o : Option α} {r : α} (h : o = some r) : Ev (fun _ => o) r := ⟨0, fun _ _ => h⟩
theorem Ev.bind {f : Nat → Option α} {g : Nat → α → Option β} {a : α} {r : β} (h : Ev f a) (k : Ev (fun n => g n a) r) : Ev (fun n => (f n).bind (g n)) r := by
  obtain ⟨K, h⟩ := h
  obtain ⟨K', k⟩ := k
  refine ⟨max K K', fun n hn => ?_⟩
  show (f n).bind (g n) = some r
  rw [h n (by omega), Option.bind_some]
  exact k n (by omega)
theorem Ev.ite_pos {c : Prop} [Decidable c] {f g : Nat → Option α} {r : α} (h : c) (k : Ev f r) : Ev (fun n => if c then f n else g n) r := by
  simpa [h] using k
theorem Ev.ite_neg {c : Prop} [Decidable c] {f g : Nat → Option α} {r : α} (h : ¬ c) (k : Ev g r) : Ev (fun n => if c then f n else g n) r := by
  simpa [h] using k
theorem Ev.next {f : Nat → Option α} {r : α} (h : Ev (fun n => f (n + 1)) r) : Ev f r := by
  obtain ⟨K, h⟩ := h
  refine ⟨K + 1, fun n hn => ?_⟩
  obtain ⟨m, rfl⟩ : ∃ m, n = m + 1 := ⟨n - 1, by omega⟩
  exact h m (by omega)
theorem Ev.is {f : Nat → Option α} {r r' : α} (h : Ev f r) (e : r = r') : Ev f r' := e ▸ h
theorem Ev.same {f g : Nat → Option α} {r : α} (h : Ev g r) (e : ∀ n, f n = g n) : Ev f r := by
  obtain ⟨K, h⟩ := h
  exact ⟨K, fun n hn => (e n).trans (h n hn)⟩
theorem Ev.rpos {c : Prop} [Decidable c] {f : Nat → Option α} {a b : α} (h : c) (k : Ev f a) : Ev f (if c then a else b) := by rw [if_pos h]; exact k
theorem Ev.rneg {c : Prop} [Decidable c] {f : Nat → Option α} {a b : α} (h : ¬ c) (k : Ev f b) : Ev f (if c then a else b) := by rw [if_neg h]; exact k
theorem Ev.at_ {f : Nat → Option α} {r : α} (h : Ev f r) : ∃ k, f k = some r := by
  obtain ⟨K, h⟩ := h
  exact ⟨K, h K (Nat.le_refl _)⟩
end

theorem wrap_nat (i : Nat) (h : i < 100000000000000) : wrap64 ((i : Int) + 1) = ((i + 1 : Nat) : Int) := by unfold wrap64; omega

theorem wrap_add (a b : Nat) (h : a + b < 100000000000000) : wrap64 ((a : Int) + (b : Int)) = ((a + b : Nat) : Int) := by unfold wrap64; omega
/-! ### Words -/
/-! ### Printable -/
/-! ### Squeeze -/
end Go.Proofs.YtfeciafdioepiaaGreatDoor

/- Plain: Check and Fold of the program. -/
namespace Go.Proofs.YtfeciafdioepiaaGreatDoor
open Go.RowKit Go.Proofs Go.Proofs.YtfeciafdioepiaaGreatDoorW.PrintWords Go.Proofs.YtfeciafdioepiaaGreatDoor.PA

end Go.Proofs.YtfeciafdioepiaaGreatDoor
set_option linter.unusedVariables false
set_option linter.unusedSimpArgs false
namespace Go.Proofs.YtfeciafdioepiaaGreatDoor
open Go.RowKit Go.Proofs Go.Proofs.YtfeciafdioepiaaGreatDoorW.PrintWords Go.Proofs.YtfeciafdioepiaaGreatDoor.PA

theorem endL (l : List UInt8) (hl : l.length ≤ 1000000) : ∀ d k i : Nat, l.length - i = d → d < k → i ≤ l.length →
    bulletinref15_end.l0 k (mkS l) (i : Int) = some ((i + lineN (l.drop i) : Nat) : Int) := by
  intro d
  induction d with
  | zero =>
    intro k i hd hk hi
    obtain ⟨k, rfl⟩ : ∃ m, k = m + 1 := ⟨k - 1, by omega⟩
    have h1 : l.drop i = [] := List.drop_eq_nil_of_le (by omega)
    unfold bulletinref15_end.l0
    rw [if_neg (by rw [mkS_size]; omega), h1]
    simp [lineN, spanL]
  | succ d ih =>
    intro k i hd hk hi
    obtain ⟨k, rfl⟩ : ∃ m, k = m + 1 := ⟨k - 1, by omega⟩
    have hlt : i < l.length := by omega
    have h1 : l.drop i = l[i] :: l.drop (i + 1) := List.drop_eq_getElem_cons hlt
    unfold bulletinref15_end.l0
    rw [if_pos (by rw [mkS_size]; omega), if_pos (by omega), bt_mk l i hlt]
    by_cases hc : l[i] = 10
    · rw [if_pos (by rw [hc]; rfl), h1]
      simp [lineN, spanL, notNl, hc]
    · rw [if_neg (fun h => hc ((toNat_int l[i] 10 (by omega)).1 h)), wrap64_small (by omega) (by omega)]
      have := ih k (i + 1) (by omega) (by omega) (by omega)
      rw [show ((i : Int) + 1) = ((i + 1 : Nat) : Int) by omega, this, h1]
      have h2 : lineN (l[i] :: l.drop (i + 1)) = lineN (l.drop (i + 1)) + 1 := by
        have hn : notNl l[i] = true := by simp [notNl, hc]
        simp [lineN, spanL, hn]
      rw [h2]
      congr 2
      omega
theorem endF (l : List UInt8) (hl : l.length ≤ 1000000) (k i : Nat) (hk : l.length - i < k) (hi : i ≤ l.length) : bulletinref15_end.f k (mkS l) (i : Int) = some ((i + lineN (l.drop i) : Nat) : Int) :=
  endL l hl _ k i rfl hk hi
end Go.Proofs.YtfeciafdioepiaaGreatDoor
set_option linter.unusedVariables false
set_option linter.unusedSimpArgs false
namespace Go.Proofs.YtfeciafdioepiaaGreatDoor
open Go.RowKit Go.Proofs Go.Proofs.YtfeciafdioepiaaGreatDoorW.PrintWords Go.Proofs.YtfeciafdioepiaaGreatDoorW.PrintMore Go.Proofs.YtfeciafdioepiaaGreatDoor.PA

theorem Ev.of_mono {α : Type} {f : Nat → Option α} (hm : ∀ k, LeO (f k) (f (k + 1))) {K : Nat} {r : α} (h : f K = some r) : Ev f r := by
  refine ⟨K, fun k hk => ?_⟩
  obtain ⟨m, rfl⟩ : ∃ m, k = K + m := ⟨k - K, by omega⟩
  clear hk
  induction m with
  | zero => exact h
  | succ m ih => exact hm _ _ ih
theorem begins_one (c : UInt8) : ∃ v : Int, Ev (fun k => bulletinref03_Begins.f k (mkS [c])) (decide (sizeU c ≠ 0), (sizeU c : Int), v) := by
  have h : (bulletinref03_Begins.f 8 (mkS [c])).map (fun x => (x.1, x.2.1)) = some (decide (sizeU c ≠ 0), (sizeU c : Int)) := by
    refine all_u8 (P := fun c => (bulletinref03_Begins.f 8 (mkS [c])).map (fun x => (x.1, x.2.1)) = some (decide (sizeU c ≠ 0), (sizeU c : Int))) ?_ c
    decide +kernel
  cases hb : bulletinref03_Begins.f 8 (mkS [c]) with
  | none => rw [hb] at h; cases h
  | some x =>
    obtain ⟨b, n, v⟩ := x
    rw [hb] at h
    injection h with h
    injection h with h1 h2
    subst h1 h2
    generalize mkS [c] = s at *
    exact ⟨v, Ev.of_mono (f := fun k => bulletinref03_Begins.f k s) (fun k => bulletinref03_Begins.mono _ _) hb⟩
theorem lead_fix (c : UInt8) : sizeU c ≠ 0 → bulletinref03_lead.f 4 (c.toNat : Int) = some ((sizeU c : Int), ((c.toNat % modU (sizeU c) : Nat) : Int)) := by
  have key : ∀ c : UInt8, sizeU c ≠ 0 → bulletinref03_lead.f 4 (c.toNat : Int) = some ((sizeU c : Int), ((c.toNat % modU (sizeU c) : Nat) : Int)) := by
    apply all_u8
    decide +kernel
  exact key c
theorem lead_one (c : UInt8) (h : sizeU c ≠ 0) : Ev (fun k => bulletinref03_lead.f k (c.toNat : Int)) ((sizeU c : Int), ((c.toNat % modU (sizeU c) : Nat) : Int)) := by
  have hf := lead_fix c h
  generalize (c.toNat % modU (sizeU c) : Nat) = m at *
  generalize (sizeU c : Int) = s at *
  generalize (c.toNat : Int) = x at *
  exact Ev.of_mono (f := fun k => bulletinref03_lead.f k x) (fun k => bulletinref03_lead.mono _ _) hf
theorem least_n (n : Nat) (h1 : 1 ≤ n) (h4 : n ≤ 4) : bulletinref03_least.f (n : Int) = some (minU n : Int) := by
  have : n = 1 ∨ n = 2 ∨ n = 3 ∨ n = 4 := by omega
  rcases this with rfl | rfl | rfl | rfl <;> rfl
theorem most_n (n : Nat) (h1 : 1 ≤ n) (h4 : n ≤ 4) : bulletinref03_most.f (n : Int) = some (maxU n : Int) := by
  have : n = 1 ∨ n = 2 ∨ n = 3 ∨ n = 4 := by omega
  rcases this with rfl | rfl | rfl | rfl <;> rfl
theorem modU_le (n : Nat) : modU n ≤ 128 ∧ 0 < modU n := by
  unfold modU; split <;> omega
theorem min_le_max (n : Nat) : minU n ≤ maxU n ∧ maxU n ≤ 1114111 := by
  unfold minU maxU; split <;> omega

theorem l1_some (n : Nat) (h1 : 1 ≤ n) (h4 : n ≤ 4) (v : Int) : ∀ d i : Nat, n - i = d → ∀ lo hi : Int, ∃ R, Ev (fun k => bulletinref03_Begins.l1 k (n : Int) v lo hi (i : Int)) R := by
  intro d
  induction d with
  | zero =>
    intro i hd lo hi
    have key : ∀ R, Ev (fun _ : Nat => if mx lo (minU n : Int) ≥ 55296 then (if mn hi (maxU n : Int) ≤ 57343 then (some (false, 0, 0)) else (if mx lo (minU n : Int) > mn hi (maxU n : Int) then (some (false, 0, 0)) else (some (true, (n : Int), v)))) else (if mx lo (minU n : Int) > mn hi (maxU n : Int) then (some (false, 0, 0)) else (some (true, (n : Int), v)))) R → ∃ R, Ev (fun k => bulletinref03_Begins.l1 k (n : Int) v lo hi (i : Int)) R := by
      intro R hR
      refine ⟨R, Ev.next ?_⟩
      simp only [bulletinref03_Begins.l1]
      refine Ev.ite_neg (by omega) ?_
      rw [least_n n h1 h4, most_n n h1 h4]
      exact hR
    by_cases h5 : mx lo (minU n : Int) ≥ 55296
    · by_cases h6 : mn hi (maxU n : Int) ≤ 57343
      · exact key _ (Ev.ite_pos h5 (Ev.ite_pos h6 (Ev.const rfl)))
      · by_cases h7 : mx lo (minU n : Int) > mn hi (maxU n : Int)
        · exact key _ (Ev.ite_pos h5 (Ev.ite_neg h6 (Ev.ite_pos h7 (Ev.const rfl))))
        · exact key _ (Ev.ite_pos h5 (Ev.ite_neg h6 (Ev.ite_neg h7 (Ev.const rfl))))
    · by_cases h7 : mx lo (minU n : Int) > mn hi (maxU n : Int)
      · exact key _ (Ev.ite_neg h5 (Ev.ite_pos h7 (Ev.const rfl)))
      · exact key _ (Ev.ite_neg h5 (Ev.ite_neg h7 (Ev.const rfl)))
  | succ d ih =>
    intro i hd lo hi
    obtain ⟨R, h⟩ := ih (i + 1) (by omega) (wrap64 (64 * lo)) (wrap64 ((wrap64 (64 * hi)) + 63))
    refine ⟨R, Ev.next ?_⟩
    simp only [bulletinref03_Begins.l1]
    refine Ev.ite_pos (by omega) ?_
    rw [wrap_nat i (by omega)]
    exact h
theorem l1_full (n : Nat) (h1 : 1 ≤ n) (h4 : n ≤ 4) (v : Nat) : Ev (fun k => bulletinref03_Begins.l1 k (n : Int) (v : Int) (v : Int) (v : Int) (n : Int)) (if okVal n v then (true, (n : Int), (v : Int)) else (false, 0, 0)) := by
  refine Ev.next ?_
  simp only [bulletinref03_Begins.l1]
  refine Ev.ite_neg (by omega) ?_
  rw [least_n n h1 h4, most_n n h1 h4]
  simp only [Option.bind_some]
  obtain ⟨hm, hM⟩ := min_le_max n
  have hok : okVal n v = true ↔ (minU n ≤ v ∧ v ≤ maxU n ∧ ¬ (55296 ≤ v ∧ v ≤ 57343)) := by
    unfold okVal
    simp only [Bool.and_eq_true, decide_eq_true_iff, Bool.not_eq_true', Bool.and_eq_false_iff, decide_eq_false_iff_not]
    omega
  generalize minU n = a at *
  generalize maxU n = b at *
  have e1 : mx (v : Int) (a : Int) = ((max v a : Nat) : Int) := by unfold mx; split <;> omega
  have e2 : mn (v : Int) (b : Int) = ((min v b : Nat) : Int) := by unfold mn; split <;> omega
  rw [e1, e2]
  by_cases h : okVal n v = true
  · rw [if_pos h]
    have h' := hok.1 h
    by_cases h5 : ((max v a : Nat) : Int) ≥ 55296
    · exact Ev.ite_pos h5 (Ev.ite_neg (by omega) (Ev.ite_neg (by omega) (Ev.const rfl)))
    · exact Ev.ite_neg h5 (Ev.ite_neg (by omega) (Ev.const rfl))
  · rw [if_neg h]
    have h' : ¬ (a ≤ v ∧ v ≤ b ∧ ¬ (55296 ≤ v ∧ v ≤ 57343)) := fun x => h (hok.2 x)
    by_cases h5 : ((max v a : Nat) : Int) ≥ 55296
    · refine Ev.ite_pos h5 ?_
      by_cases h6 : ((min v b : Nat) : Int) ≤ 57343
      · exact Ev.ite_pos h6 (Ev.const rfl)
      · exact Ev.ite_neg h6 (Ev.ite_pos (by omega) (Ev.const rfl))
    · exact Ev.ite_neg h5 (Ev.ite_pos (by omega) (Ev.const rfl))
theorem wrap64_mid {x : Int} (h0 : 0 ≤ x) (h1 : x ≤ 1000000000000) : wrap64 x = x := by unfold wrap64; omega
theorem wrap_digit (v c : Nat) (hv : v ≤ 33554432) (h1 : 128 ≤ c) (h2 : c ≤ 191) : wrap64 ((wrap64 ((wrap64 (64 * (v : Int))) + (wrap64 (c : Int)))) - 128) = ((v * 64 + c % 64 : Nat) : Int) := by
  rw [wrap64_mid (x := 64 * (v : Int)) (by omega) (by omega), wrap64_mid (x := (c : Int)) (by omega) (by omega), wrap64_mid (x := 64 * (v : Int) + (c : Int)) (by omega) (by omega), wrap64_mid (by omega) (by omega)]
  omega
theorem cont_int (b : UInt8) : isCont b = true ↔ (128 ≤ b.toNat ∧ b.toNat ≤ 191) := by
  unfold isCont
  have := b.toNat_lt
  rw [decide_eq_true_iff]; omega
/-- The rounds over the bytes that follow. -/
theorem l0_rounds (l : List UInt8) (hl : l.length ≤ 4) (n : Nat) : ∀ d i v : Nat, l.length - i = d → i ≤ l.length → (v + 1) * 64 ^ d ≤ 33554432 → ∀ R,
    ((l.drop i).all isCont = true → Ev (fun k => bulletinref03_Begins.l1 k (n : Int) (((l.drop i).foldl (fun v b => v * 64 + b.toNat % 64) v : Nat) : Int) (((l.drop i).foldl (fun v b => v * 64 + b.toNat % 64) v : Nat) : Int) (((l.drop i).foldl (fun v b => v * 64 + b.toNat % 64) v : Nat) : Int) (l.length : Int)) R) →
    Ev (fun k => bulletinref03_Begins.l0 k (mkS l) (n : Int) (v : Int) (i : Int)) (if (l.drop i).all isCont then R else (false, 0, 0)) := by
  intro d
  induction d with
  | zero =>
    intro i v hd hi hv R hR
    have h0 : l.drop i = [] := List.drop_eq_nil_of_le (by omega)
    rw [h0] at hR ⊢
    refine Ev.next ?_
    simp only [bulletinref03_Begins.l0, mkS_size]
    refine Ev.ite_neg (by omega) ?_
    exact hR rfl
  | succ d ih =>
    intro i v hd hi hv R hR
    have hlt : i < l.length := by omega
    have hdr : l.drop i = l[i] :: l.drop (i + 1) := List.drop_eq_getElem_cons hlt
    have hp : 64 ^ (d + 1) = 64 ^ d * 64 := Nat.pow_succ ..
    have hp0 : 0 < 64 ^ d := Nat.pow_pos (by omega)
    have hb := l[i].toNat_lt
    have hv1 : (v + 1) * 64 ≤ 33554432 := by
      refine Nat.le_trans ?_ hv
      rw [hp, ← Nat.mul_assoc]
      exact Nat.mul_le_mul_right 64 (Nat.le_mul_of_pos_right _ hp0)
    have hv2 : (v * 64 + l[i].toNat % 64 + 1) * 64 ^ d ≤ 33554432 := by
      refine Nat.le_trans ?_ hv
      rw [hp, Nat.mul_comm (64 ^ d) 64, ← Nat.mul_assoc]
      exact Nat.mul_le_mul_right _ (by omega)
    refine Ev.next ?_
    simp only [bulletinref03_Begins.l0, mkS_size]
    refine Ev.ite_pos (by omega) (Ev.ite_pos (by omega) ?_)
    rw [bt_mk l i hlt, hdr, List.all_cons]
    by_cases hc : isCont l[i] = true
    · have hc' := (cont_int _).1 hc
      refine Ev.ite_neg (by omega) (Ev.ite_neg (by omega) ?_)
      rw [wrap_digit v l[i].toNat (by omega) hc'.1 hc'.2, wrap_nat i (by omega), hc, Bool.true_and]
      refine ih (i + 1) _ (by omega) (by omega) hv2 R ?_
      intro ha
      have := hR (by rw [hdr, List.all_cons, hc, ha]; rfl)
      rw [hdr] at this
      exact this
    · have hc' : ¬ (128 ≤ l[i].toNat ∧ l[i].toNat ≤ 191) := fun x => hc ((cont_int _).2 x)
      have hcf : isCont l[i] = false := by simpa using hc
      rw [hcf, Bool.false_and]
      by_cases h1 : (l[i].toNat : Int) < 128
      · exact Ev.ite_pos h1 (Ev.const rfl)
      · exact Ev.ite_neg h1 (Ev.ite_pos (by omega) (Ev.const rfl))
theorem pow64 (d : Nat) (h : d ≤ 3) : 64 ^ d ≤ 262144 := by
  have : d = 0 ∨ d = 1 ∨ d = 2 ∨ d = 3 := by omega
  rcases this with rfl | rfl | rfl | rfl <;> decide
theorem begins_gen (c : UInt8) (t : List UInt8) (h : sizeU c ≠ 0) (hl : (c :: t).length ≤ sizeU c) (R : Bool × Int × Int)
    (hR : t.all isCont = true → Ev (fun k => bulletinref03_Begins.l1 k (sizeU c : Int) ((valL (modU (sizeU c)) (c :: t) : Nat) : Int) ((valL (modU (sizeU c)) (c :: t) : Nat) : Int) ((valL (modU (sizeU c)) (c :: t) : Nat) : Int) ((c :: t).length : Int)) R) :
    Ev (fun k => bulletinref03_Begins.f k (mkS (c :: t))) (if t.all isCont then R else (false, 0, 0)) := by
  have hs := (sizeU_of c).1
  have hlc : (c :: t).length = t.length + 1 := rfl
  have hb : bt (mkS (c :: t)) 0 = (c.toNat : Int) := bt_mk (c :: t) 0 (by omega)
  have hm := modU_le (sizeU c)
  unfold bulletinref03_Begins.f
  simp only [mkS_size]
  rw [hb]
  refine Ev.ite_pos (by omega) (Ev.bind (lead_one c h) ?_)
  refine Ev.ite_neg (by omega) ?_
  have hd : decide (((c :: t).length : Int) > (sizeU c : Int)) = false := decide_eq_false (by omega)
  rw [hd]
  refine Ev.next ?_
  simp only [bulletinref03_Begins.j0]
  refine Ev.ite_neg (by simp) ?_
  have hv : c.toNat % modU (sizeU c) < modU (sizeU c) := Nat.mod_lt _ hm.2
  have hv2 : c.toNat % modU (sizeU c) + 1 ≤ 128 := by omega
  have := l0_rounds (c :: t) (by omega) (sizeU c) ((c :: t).length - 1) 1 (c.toNat % modU (sizeU c)) rfl (by omega)
    (Nat.le_trans (Nat.mul_le_mul hv2 (pow64 _ (by omega))) (by omega)) R (fun ha => hR ha)
  exact this
theorem begins_full (c : UInt8) (t : List UInt8) (h : sizeU c ≠ 0) (hl : (c :: t).length = sizeU c) :
    ∃ v : Int, Ev (fun k => bulletinref03_Begins.f k (mkS (c :: t))) (okAll (sizeU c) (c :: t), (if okAll (sizeU c) (c :: t) then (sizeU c : Int) else 0), v) ∧ (okAll (sizeU c) (c :: t) = true → v = ((valL (modU (sizeU c)) (c :: t) : Nat) : Int)) := by
  have hs := (sizeU_of c).1
  have hlc : (c :: t).length = t.length + 1 := rfl
  have hg := begins_gen c t h (by omega) _ (fun _ => by rw [hl]; exact l1_full (sizeU c) (by omega) (by omega) (valL (modU (sizeU c)) (c :: t)))
  have hok : okAll (sizeU c) (c :: t) = (t.all isCont && okVal (sizeU c) (valL (modU (sizeU c)) (c :: t))) := rfl
  by_cases h1 : t.all isCont = true
  · by_cases h2 : okVal (sizeU c) (valL (modU (sizeU c)) (c :: t)) = true
    · rw [hok, h1, h2]
      rw [if_pos h1, if_pos h2] at hg
      exact ⟨_, hg, fun _ => rfl⟩
    · have h2' : okVal (sizeU c) (valL (modU (sizeU c)) (c :: t)) = false := by simpa using h2
      rw [hok, h1, h2']
      rw [if_pos h1, if_neg h2] at hg
      exact ⟨_, hg, fun h => by simp at h⟩
  · have h1' : t.all isCont = false := by simpa using h1
    rw [hok, h1']
    rw [if_neg h1] at hg
    exact ⟨_, hg, fun h => by simp at h⟩
theorem begins_part (c : UInt8) (t : List UInt8) (h : sizeU c ≠ 0) (hl : (c :: t).length ≤ sizeU c) : ∃ R, Ev (fun k => bulletinref03_Begins.f k (mkS (c :: t))) R := by
  have hs := (sizeU_of c).1
  obtain ⟨R, hR⟩ := l1_some (sizeU c) (by omega) (by omega) ((valL (modU (sizeU c)) (c :: t) : Nat) : Int) _ (c :: t).length rfl ((valL (modU (sizeU c)) (c :: t) : Nat) : Int) ((valL (modU (sizeU c)) (c :: t) : Nat) : Int)
  exact ⟨_, begins_gen c t h hl R (fun _ => hR)⟩
/-- The reference's First. -/
def FirstRes (l : List UInt8) (R : Int × Int × Int) : Prop := match decR l with
  | some (v, n) => R = ((v : Int), (n : Int), 0)
  | none => R.2.2 ≠ 0
theorem refFirst (l : List UInt8) (h0 : l ≠ []) : ∃ R, Ev (fun k => bulletinref03_First.f k (mkS l)) R ∧ FirstRes l R := by
  obtain ⟨c, t, rfl⟩ : ∃ c t, l = c :: t := by
    cases l with
    | nil => exact absurd rfl h0
    | cons c t => exact ⟨c, t, rfl⟩
  have hs := (sizeU_of c).1
  have hlc : (c :: t).length = t.length + 1 := rfl
  have e1 : (mkS (c :: t)).extract 0 1 = mkS [c] := by rw [extract_mk, mkS_toList]; rfl
  obtain ⟨v1, h1⟩ := begins_one c
  unfold bulletinref03_First.f
  simp only [mkS_size]
  rw [e1]
  by_cases hz : sizeU c = 0
  · have hd : decR (c :: t) = none := by simp only [decR]; rw [if_pos (.inl hz)]
    refine ⟨(0, 0, 6), ?_, by unfold FirstRes; rw [hd]; decide⟩
    refine Ev.ite_pos (by omega) (Ev.ite_pos (by omega) (Ev.bind h1 (Ev.ite_neg ?_ (Ev.const rfl))))
    simp [hz]
  · by_cases hn : sizeU c ≤ (c :: t).length
    · have e2 : (mkS (c :: t)).extract 0 ((sizeU c : Int)).toNat = mkS ((c :: t).take (sizeU c)) := by rw [extract_mk, mkS_toList, Int.toNat_natCast]; rfl
      have ht : (c :: t).take (sizeU c) = c :: t.take (sizeU c - 1) := by
        conv => lhs; rw [show sizeU c = (sizeU c - 1) + 1 by omega]
        rfl
      have htl : (c :: t.take (sizeU c - 1)).length = sizeU c := by rw [← ht, List.length_take]; omega
      obtain ⟨v2, h2, h3⟩ := begins_full c (t.take (sizeU c - 1)) hz htl
      rw [← ht] at h2 h3
      have hd : decR (c :: t) = if okAll (sizeU c) ((c :: t).take (sizeU c)) then some (valL (modU (sizeU c)) ((c :: t).take (sizeU c)), sizeU c) else none := by
        simp only [decR]; rw [if_neg (by omega)]
      rw [← e2] at h2
      by_cases hok : okAll (sizeU c) ((c :: t).take (sizeU c)) = true
      · rw [if_pos hok] at hd
        refine ⟨(((valL (modU (sizeU c)) ((c :: t).take (sizeU c)) : Nat) : Int), (sizeU c : Int), 0), ?_, by unfold FirstRes; rw [hd]⟩
        refine Ev.ite_pos (by omega) (Ev.ite_pos (by omega) (Ev.bind h1 (Ev.ite_pos (by simp [hz]) (Ev.ite_pos (by simp only [] ; omega) (Ev.ite_pos (by simp only []; omega) (Ev.ite_pos (by simp only []; omega) ?_))))))
        refine Ev.bind h2 (Ev.ite_pos hok (Ev.const ?_))
        rw [h3 hok]
      · rw [if_neg hok] at hd
        refine ⟨(0, 0, 3), ?_, by unfold FirstRes; rw [hd]; decide⟩
        refine Ev.ite_pos (by omega) (Ev.ite_pos (by omega) (Ev.bind h1 (Ev.ite_pos (by simp [hz]) (Ev.ite_pos (by simp only [] ; omega) (Ev.ite_pos (by simp only []; omega) (Ev.ite_pos (by simp only []; omega) ?_))))))
        exact Ev.bind h2 (Ev.ite_neg hok (Ev.const rfl))
    · have hd : decR (c :: t) = none := by simp only [decR]; rw [if_pos (.inr (by omega))]
      obtain ⟨R, h2⟩ := begins_part c t hz (by omega)
      have h1n : (decide (sizeU c ≠ 0)) = true := by simp [hz]
      by_cases hr : R.1 = true
      · refine ⟨(0, 0, 23), ?_, by unfold FirstRes; rw [hd]; decide⟩
        exact Ev.ite_pos (by omega) (Ev.ite_pos (by omega) (Ev.bind h1 (Ev.ite_pos h1n (Ev.ite_neg (by simp only [] ; omega) (Ev.bind h2 (Ev.ite_pos hr (Ev.const rfl)))))))
      · refine ⟨(0, 0, 3), ?_, by unfold FirstRes; rw [hd]; decide⟩
        exact Ev.ite_pos (by omega) (Ev.ite_pos (by omega) (Ev.bind h1 (Ev.ite_pos h1n (Ev.ite_neg (by simp only [] ; omega) (Ev.bind h2 (Ev.ite_neg hr (Ev.const rfl)))))))

def AllEnd (e : Option Nat) (p c : Int) : Prop := match e with
  | none => p = 0 ∧ c = 0
  | some q => p = (q : Int) ∧ c ≠ 0
theorem refAll (l : List UInt8) (hl : l.length ≤ 1000000) : ∀ f i : Nat, l.length - i ≤ f → i ≤ l.length → ∀ rs os : List Int, rs.length ≤ i → os.length ≤ i →
    ∃ p c : Int, Ev (fun k => bulletinref03_All.l0 k (mkS l) rs os (i : Int)) (rs ++ (runesG f i (l.drop i)).1.map (fun x => (x.2 : Int)), os ++ (runesG f i (l.drop i)).1.map (fun x => (x.1 : Int)), p, c) ∧ AllEnd (runesG f i (l.drop i)).2 p c := by
  intro f
  induction f with
  | zero =>
    intro i hf hi rs os hr ho
    refine ⟨0, 0, ?_, by unfold AllEnd runesG; exact ⟨rfl, rfl⟩⟩
    refine Ev.next ?_
    simp only [bulletinref03_All.l0, mkS_size]
    refine Ev.ite_neg (by omega) (Ev.const ?_)
    simp [runesG]
  | succ f ih =>
    intro i hf hi rs os hr ho
    by_cases hlt : i < l.length
    · have hne : l.drop i ≠ [] := by
        intro h
        have := congrArg List.length h
        rw [List.length_drop] at this
        simp at this; omega
      have e1 : (mkS l).extract ((i : Int)).toNat l.length = mkS (l.drop i) := by
        rw [Int.toNat_natCast, extract_mk, mkS_toList, List.take_of_length_le]; rw [List.length_drop]; omega
      obtain ⟨R, h1, h2⟩ := refFirst (l.drop i) hne
      rw [← e1] at h1
      cases hd : decR (l.drop i) with
      | none =>
        unfold FirstRes at h2
        rw [hd] at h2
        rw [runesG_none hne hd]
        refine ⟨(i : Int), R.2.2, ?_, ⟨rfl, h2⟩⟩
        refine Ev.next ?_
        simp only [bulletinref03_All.l0, mkS_size]
        refine Ev.ite_pos (by omega) (Ev.ite_pos (by omega) (Ev.ite_pos (by omega) (Ev.bind h1 (Ev.ite_neg h2 (Ev.const ?_)))))
        simp
      | some q =>
        obtain ⟨v, n⟩ := q
        unfold FirstRes at h2
        rw [hd] at h2
        subst h2
        obtain ⟨hp1, hp2, hp3, hp4⟩ := decR_pos hd
        rw [List.length_drop] at hp2
        rw [runesG_some hd, List.drop_drop]
        obtain ⟨p, c, h3, h4⟩ := ih (i + n) (by omega) (by omega) (rs ++ [(v : Int)]) (os ++ [(i : Int)]) (by simp; omega) (by simp; omega)
        refine ⟨p, c, ?_, h4⟩
        refine Ev.next ?_
        simp only [bulletinref03_All.l0, mkS_size]
        refine Ev.ite_pos (by omega) (Ev.ite_pos (by omega) (Ev.ite_pos (by omega) (Ev.bind h1 (Ev.ite_pos rfl (Ev.ite_pos (by omega) (Ev.ite_pos (by omega) ?_))))))
        show Ev (fun k => bulletinref03_All.l0 k (mkS l) (rs ++ [(v : Int)]) (os ++ [(i : Int)]) (wrap64 ((i : Int) + (n : Int)))) _
        rw [wrap_add i n (by omega)]
        refine h3.is ?_
        simp
    · have h0 : l.drop i = [] := List.drop_eq_nil_of_le (by omega)
      rw [h0, runesG_nil]
      refine ⟨0, 0, ?_, ⟨rfl, rfl⟩⟩
      refine Ev.next ?_
      simp only [bulletinref03_All.l0, mkS_size]
      refine Ev.ite_neg (by omega) (Ev.const ?_)
      simp
theorem refControl (v : Nat) : bulletinref03_Control.f (v : Int) = some (ctrlU v) := by
  unfold bulletinref03_Control.f ctrlU
  by_cases h1 : v ≤ 31
  · rw [if_pos (by omega)]; simp [h1]
  · rw [if_neg (by omega)]
    have h1' : decide (v ≤ 31) = false := decide_eq_false h1
    by_cases h2 : 127 ≤ v
    · rw [if_pos (by omega)]
      by_cases h3 : v ≤ 159
      · rw [if_pos (by omega)]; simp [h2, h3]
      · rw [if_neg (by omega)]
        by_cases h4 : v = 8232
        · rw [if_pos (by omega)]; simp [h4]
        · rw [if_neg (by omega)]
          by_cases h5 : v = 8233
          · subst h5; rfl
          · have : ((v : Int) == 8233) = false := by rw [beq_eq_false_iff_ne]; omega
            rw [this]; simp [h1, h3, h4, h5]
    · rw [if_neg (by omega), if_neg (by omega)]
      have : ((v : Int) == 8233) = false := by rw [beq_eq_false_iff_ne]; omega
      rw [this]
      have h4 : v ≠ 8232 := by omega
      have h5 : v ≠ 8233 := by omega
      simp [h1, h2, h4, h5]
theorem rd_map {α : Type} (g : α → Int) (xs : List α) (i : Nat) (h : i < xs.length) : rd (xs.map g) (i : Int) = g xs[i] := by
  unfold rd
  rw [Int.toNat_natCast, List.getD_eq_getElem?_getD, List.getElem?_map, List.getElem?_eq_getElem h]; rfl
theorem refBadL (xs : List (Nat × Nat)) (hx : xs.length ≤ 1000000) (p c : Int) : ∀ d i : Nat, xs.length - i = d → i ≤ xs.length →
    Ev (fun k => bulletinref15_bad.l0 k (xs.map (fun x => (x.2 : Int))) (xs.map (fun x => (x.1 : Int))) p c (i : Int)) (match (xs.drop i).find? (fun x => badV x.2) with | some x => (x.1 : Int) | none => if c = 0 then -1 else p) := by
  intro d
  induction d with
  | zero =>
    intro i hd hi
    have h0 : xs.drop i = [] := List.drop_eq_nil_of_le (by omega)
    rw [h0]
    refine Ev.next ?_
    simp only [bulletinref15_bad.l0, List.length_map]
    refine Ev.ite_neg (by omega) ?_
    show Ev (fun n => if c = 0 then some (-1 : Int) else some p) (if c = 0 then -1 else p)
    by_cases h : c = 0
    · exact Ev.rpos h (Ev.ite_pos h (Ev.const rfl))
    · exact Ev.rneg h (Ev.ite_neg h (Ev.const rfl))
  | succ d ih =>
    intro i hd hi
    have hlt : i < xs.length := by omega
    have hdr : xs.drop i = xs[i] :: xs.drop (i + 1) := List.drop_eq_getElem_cons hlt
    refine Ev.next ?_
    simp only [bulletinref15_bad.l0, List.length_map]
    refine Ev.ite_pos (by omega) (Ev.ite_pos (by omega) ?_)
    rw [rd_map (fun x : Nat × Nat => (x.2 : Int)) xs i hlt, rd_map (fun x : Nat × Nat => (x.1 : Int)) xs i hlt]
    rw [refControl, wrap_nat i (by omega), hdr, List.find?_cons]
    simp only [Option.bind_some]
    by_cases h1 : ctrlU xs[i].2 = true
    · refine Ev.ite_pos h1 ?_
      by_cases h2 : xs[i].2 = 9
      · refine Ev.ite_pos (by omega) ?_
        have : badV xs[i].2 = false := by unfold badV; simp [h2]
        rw [this]
        exact ih (i + 1) (by omega) (by omega)
      · refine Ev.ite_neg (by omega) (Ev.ite_pos (by omega) (Ev.const ?_))
        have : badV xs[i].2 = true := by unfold badV; simp [h1, h2]
        rw [this]
    · refine Ev.ite_neg h1 ?_
      have : badV xs[i].2 = false := by unfold badV; simp [h1]
      rw [this]
      exact ih (i + 1) (by omega) (by omega)
theorem runesG_len (f : Nat) : ∀ k l, (runesG f k l).1.length ≤ f := by
  induction f with
  | zero => intro k l; simp [runesG]
  | succ f ih =>
    intro k l
    by_cases h0 : l = []
    · subst h0; rw [runesG_nil]; simp
    · cases hd : decR l with
      | none => rw [runesG_none h0 hd]; simp
      | some q =>
        obtain ⟨v, n⟩ := q
        rw [runesG_some hd]
        have := ih (k + n) (l.drop n)
        simp; omega
theorem refBadF (l : List UInt8) (hl : l.length ≤ 1000000) : Ev (fun k => bulletinref15_bad.f k (mkS l)) (badU l) := by
  obtain ⟨p, c, h1, h2⟩ := refAll l hl l.length 0 (by omega) (by omega) [] [] (by simp) (by simp)
  rw [List.drop_zero] at h1 h2
  have hr : runesG l.length 0 l = runesU l := rfl
  rw [hr] at h1 h2
  simp only [List.nil_append] at h1
  unfold bulletinref15_bad.f bulletinref03_All.f
  refine Ev.bind h1 ?_
  have hx : (runesU l).1.length ≤ 1000000 := Nat.le_trans (runesG_len _ _ _) hl
  refine (refBadL (runesU l).1 hx p c _ 0 rfl (by omega)).is ?_
  rw [List.drop_zero]
  unfold badU AllEnd at *
  cases hf : (runesU l).1.find? (fun x => badV x.2) with
  | some x => rfl
  | none =>
    cases he : (runesU l).2 with
    | none => rw [he] at h2; simp [h2.2]
    | some q => rw [he] at h2; simp only []; rw [if_neg h2.2, h2.1]
end Go.Proofs.YtfeciafdioepiaaGreatDoor
set_option linter.unusedVariables false
set_option linter.unusedSimpArgs false
namespace Go.Proofs.YtfeciafdioepiaaGreatDoor
open Go.RowKit Go.Proofs Go.Proofs.YtfeciafdioepiaaGreatDoorW.PrintWords Go.Proofs.YtfeciafdioepiaaGreatDoor.PA

theorem extract_line (l : List UInt8) (i : Nat) : (mkS l).extract i (i + lineN (l.drop i)) = mkS ((l.drop i).take (lineN (l.drop i))) := by
  rw [extract_mk, mkS_toList]
  congr 2
  omega
end Go.Proofs.YtfeciafdioepiaaGreatDoor
set_option linter.unusedVariables false
set_option linter.unusedSimpArgs false
namespace Go.Proofs.YtfeciafdioepiaaGreatDoor
open Go.RowKit Go.Proofs Go.Proofs.YtfeciafdioepiaaGreatDoorW.PrintWords Go.Proofs.YtfeciafdioepiaaGreatDoorW.PrintMore Go.Proofs.YtfeciafdioepiaaGreatDoor.PA

/-- What a body's check answers, from a line's offset on; f: more than enough rounds. -/
def bodyG : Nat → Nat → List UInt8 → Int × Int
  | 0, _, _ => (0, 0)
  | f + 1, i, l => if l = [] then (0, 0) else if lineN l = l.length then (((i + l.length : Nat) : Int), 4)
    else if 998 < lineN l then (((i + 998 : Nat) : Int), 5)
    else if 0 ≤ badU (l.take (lineN l)) then ((i : Int) + badU (l.take (lineN l)), 6)
    else bodyG f (i + (lineN l + 1)) (l.drop (lineN l + 1))
def bodyU (l : List UInt8) : Int × Int := bodyG l.length 0 l
theorem bodyG_nil (f i : Nat) : bodyG f i [] = (0, 0) := by cases f <;> simp [bodyG]
theorem runesG_off (f : Nat) : ∀ k l, (∀ x ∈ (runesG f k l).1, x.1 ≤ k + l.length) ∧ ∀ p, (runesG f k l).2 = some p → p ≤ k + l.length := by
  induction f with
  | zero => intro k l; simp [runesG]
  | succ f ih =>
    intro k l
    by_cases h0 : l = []
    · subst h0; rw [runesG_nil]; simp
    · cases hd : decR l with
      | none =>
        rw [runesG_none h0 hd]
        refine ⟨by simp, fun p hp => ?_⟩
        injection hp with hp; omega
      | some q =>
        obtain ⟨v, n⟩ := q
        rw [runesG_some hd]
        obtain ⟨h1, h2⟩ := ih (k + n) (l.drop n)
        have hn := (decR_pos hd).2.1
        rw [List.length_drop] at h1 h2
        refine ⟨fun x hx => ?_, fun p hp => ?_⟩
        · rcases List.mem_cons.1 hx with rfl | hx
          · simp only []; omega
          · have := h1 x hx; omega
        · have := h2 p hp; omega
theorem badU_le (l : List UInt8) : -1 ≤ badU l ∧ badU l ≤ (l.length : Int) := by
  obtain ⟨h1, h2⟩ := runesG_off l.length 0 l
  have hr : runesG l.length 0 l = runesU l := rfl
  rw [hr] at h1 h2
  unfold badU
  cases hf : (runesU l).1.find? (fun x => badV x.2) with
  | some x =>
    have := h1 x (List.mem_of_find?_eq_some hf)
    simp only []; omega
  | none =>
    cases he : (runesU l).2 with
    | none => simp only []; omega
    | some q => have := h2 q he; simp only []; omega
theorem drop_ne {l : List UInt8} {i : Nat} (h : i < l.length) : l.drop i ≠ [] := by
  intro h1
  have := congrArg List.length h1
  rw [List.length_drop] at this
  simp at this; omega
theorem checkBody_loop (l : List UInt8) (hl : l.length ≤ 900000) : ∀ f i : Nat, l.length - i ≤ f → i ≤ l.length → Ev (fun k => PC.article_CheckBody.l0 k (mkS l) (i : Int)) (bodyG f i (l.drop i)) := by
  intro f
  induction f with
  | zero =>
    intro i hf hi
    refine Ev.next ?_
    simp only [PC.article_CheckBody.l0, mkS_size]
    exact Ev.ite_neg (by omega) (Ev.const rfl)
  | succ f ih =>
    intro i hf hi
    by_cases hlt : i < l.length
    · have hne := drop_ne hlt
      have e1 : (mkS l).extract ((i : Int)).toNat l.length = mkS (l.drop i) := by
        rw [Int.toNat_natCast, extract_mk, mkS_toList, List.take_of_length_le]; rw [List.length_drop]; omega
      have hld : (l.drop i).length = l.length - i := List.length_drop ..
      have hln := lineN_le (l.drop i)
      have hcut : GV.Cut.f (mkS (l.drop i)) ⟨#[10]⟩ = some (mkS ((l.drop i).take (lineN (l.drop i))), mkS ((l.drop i).drop (lineN (l.drop i) + 1)), hasNl (l.drop i)) := by
        unfold GV.Cut.f
        rw [if_pos ⟨rfl, by rw [mkS_size]; omega⟩, mkS_toList]
      refine Ev.next ?_
      simp only [PC.article_CheckBody.l0, mkS_size]
      rw [e1, hcut]
      refine Ev.ite_pos (by omega) (Ev.ite_pos (by omega) (Ev.ite_pos (by omega) ?_))
      simp only [Option.bind_some, mkS_size]
      unfold bodyG
      rw [if_neg hne]
      have htk : ((l.drop i).take (lineN (l.drop i))).length = lineN (l.drop i) := by rw [List.length_take]; omega
      rw [htk]
      by_cases h1 : lineN (l.drop i) = (l.drop i).length
      · rw [if_pos h1]
        refine Ev.ite_neg (by unfold hasNl; simp; omega) (Ev.const ?_)
        rw [show i + (l.drop i).length = l.length by omega]
      · rw [if_neg h1]
        refine Ev.ite_pos (by unfold hasNl; simp; omega) ?_
        by_cases h2 : 998 < lineN (l.drop i)
        · rw [if_pos h2]
          refine Ev.ite_pos (by omega) (Ev.const ?_)
          rw [show (998 : Int) = ((998 : Nat) : Int) from rfl, wrap_add i 998 (by omega)]
        · rw [if_neg h2]
          refine Ev.ite_neg (by omega) ?_
          have hbad : GV.badByte.f (mkS ((l.drop i).take (lineN (l.drop i)))) = some (badU ((l.drop i).take (lineN (l.drop i)))) := by
            unfold GV.badByte.f
            rw [if_pos (by rw [mkS_size]; omega), mkS_toList]
          rw [hbad]
          simp only [Option.bind_some]
          have hb := badU_le ((l.drop i).take (lineN (l.drop i)))
          rw [htk] at hb
          by_cases h3 : 0 ≤ badU ((l.drop i).take (lineN (l.drop i)))
          · rw [if_pos h3]
            refine Ev.ite_pos h3 (Ev.const ?_)
            rw [wrap64_small (by omega) (by omega)]
          · rw [if_neg h3]
            refine Ev.ite_neg h3 ?_
            have hw : wrap64 ((i : Int) + wrap64 ((lineN (l.drop i) : Int) + 1)) = ((i + (lineN (l.drop i) + 1) : Nat) : Int) := by
              rw [wrap_nat _ (by omega), wrap_add _ _ (by omega)]
            rw [hw, List.drop_drop]
            exact ih _ (by omega) (by omega)
    · rw [List.drop_eq_nil_of_le (by omega), bodyG_nil]
      refine Ev.next ?_
      simp only [PC.article_CheckBody.l0, mkS_size]
      exact Ev.ite_neg (by omega) (Ev.const rfl)
theorem checkBodyF (l : List UInt8) (hl : l.length ≤ 900000) : Ev (fun k => PC.article_CheckBody.f k (mkS l)) (bodyU l) := by
  have := checkBody_loop l hl l.length 0 (by omega) (by omega)
  rw [List.drop_zero] at this
  exact this
theorem refEndE (l : List UInt8) (hl : l.length ≤ 1000000) (i : Nat) (hi : i ≤ l.length) : Ev (fun k => bulletinref15_end.f k (mkS l) (i : Int)) ((i + lineN (l.drop i) : Nat) : Int) :=
  ⟨l.length - i + 1, fun k hk => endF l hl k i (by omega) hi⟩
theorem refBody_loop (l : List UInt8) (hl : l.length ≤ 900000) : ∀ f i : Nat, l.length - i ≤ f → i ≤ l.length → Ev (fun k => bulletinref15_Body.l0 k (mkS l) (i : Int)) (bodyG f i (l.drop i)) := by
  intro f
  induction f with
  | zero =>
    intro i hf hi
    refine Ev.next ?_
    simp only [bulletinref15_Body.l0, mkS_size]
    exact Ev.ite_neg (by omega) (Ev.const rfl)
  | succ f ih =>
    intro i hf hi
    by_cases hlt : i < l.length
    · have hne := drop_ne hlt
      have hld : (l.drop i).length = l.length - i := List.length_drop ..
      have hln := lineN_le (l.drop i)
      have e1 : (mkS l).extract ((i : Int)).toNat (((i + lineN (l.drop i) : Nat) : Int)).toNat = mkS ((l.drop i).take (lineN (l.drop i))) := by
        rw [Int.toNat_natCast, Int.toNat_natCast]; exact extract_line l i
      refine Ev.next ?_
      simp only [bulletinref15_Body.l0, mkS_size]
      refine Ev.ite_pos (by omega) (Ev.bind (refEndE l (by omega) i hi) ?_)
      unfold bodyG
      rw [if_neg hne]
      have htk : ((l.drop i).take (lineN (l.drop i))).length = lineN (l.drop i) := by rw [List.length_take]; omega
      by_cases h1 : lineN (l.drop i) = (l.drop i).length
      · rw [if_pos h1]
        refine Ev.ite_pos (by omega) (Ev.const ?_)
        rw [show i + (l.drop i).length = l.length by omega]
      · rw [if_neg h1]
        refine Ev.ite_neg (by omega) ?_
        have hw1 : wrap64 (((i + lineN (l.drop i) : Nat) : Int) - (i : Int)) = (lineN (l.drop i) : Int) := by
          rw [show ((i + lineN (l.drop i) : Nat) : Int) - (i : Int) = (lineN (l.drop i) : Int) by omega, wrap64_small (by omega) (by omega)]
        rw [hw1]
        by_cases h2 : 998 < lineN (l.drop i)
        · rw [if_pos h2]
          refine Ev.ite_pos (by omega) (Ev.const ?_)
          rw [show (998 : Int) = ((998 : Nat) : Int) from rfl, wrap_add i 998 (by omega)]
        · rw [if_neg h2]
          refine Ev.ite_neg (by omega) (Ev.ite_pos (by omega) (Ev.ite_pos (by omega) (Ev.ite_pos (by omega) ?_)))
          rw [e1]
          refine Ev.bind (refBadF _ (by omega)) ?_
          have hb := badU_le ((l.drop i).take (lineN (l.drop i)))
          rw [htk] at hb
          by_cases h3 : 0 ≤ badU ((l.drop i).take (lineN (l.drop i)))
          · rw [if_pos h3]
            refine Ev.ite_pos h3 (Ev.const ?_)
            rw [wrap64_small (by omega) (by omega)]
          · rw [if_neg h3]
            refine Ev.ite_neg h3 ?_
            rw [wrap_nat _ (by omega), List.drop_drop]
            exact ih _ (by omega) (by omega)
    · rw [List.drop_eq_nil_of_le (by omega), bodyG_nil]
      refine Ev.next ?_
      simp only [bulletinref15_Body.l0, mkS_size]
      exact Ev.ite_neg (by omega) (Ev.const rfl)
theorem refBodyF (l : List UInt8) (hl : l.length ≤ 900000) : Ev (fun k => bulletinref15_Body.f k (mkS l)) (bodyU l) := by
  have := refBody_loop l hl l.length 0 (by omega) (by omega)
  rw [List.drop_zero] at this
  exact this
/-- A text that is cut. -/
theorem shortF (l : List UInt8) (n : Nat) (hn : n ≤ 1000000) : bulletinlaw15_short.f (mkS l) (n : Int) = some (mkS (l.take n)) := by
  unfold bulletinlaw15_short.f
  rw [mkS_size, mn_nat l.length n, if_pos (by omega), if_pos (by omega), Int.toNat_natCast, extract_mk, mkS_toList, List.drop_zero, Nat.sub_zero]
  congr 2
  rw [Nat.min_comm, ← List.take_take, List.take_length]
end Go.Proofs.YtfeciafdioepiaaGreatDoor
namespace Go.Proofs.YtfeciafdioepiaaGreatDoor.Pure
open Go.RowKit Go.Proofs.YtfeciafdioepiaaGreatDoor.PL Go.Proofs.YtfeciafdioepiaaGreatDoorW.PrintWords Go.Proofs.YtfeciafdioepiaaGreatDoorW.PrintLast

theorem ArticleBodies : bulletinlaw15_ArticleBodies.Pure := by
  intro a ha
  obtain ⟨l, rfl⟩ : ∃ l, a = mkS l := ⟨a.data.toList, (mkS_data a).symm⟩
  refine Ev.at_ ?_
  unfold bulletinlaw15_ArticleBodies.f
  have hs := shortF l 4000 (by omega)
  rw [show ((4000 : Nat) : Int) = 4000 from rfl] at hs
  rw [hs]
  have hlen : (l.take 4000).length ≤ 4000 := by rw [List.length_take]; omega
  generalize l.take 4000 = t at *
  simp only [Option.bind_some]
  refine Ev.bind (checkBodyF t (by omega)) (Ev.bind (refBodyF t (by omega)) (Ev.bind (a := true) (Ev.const rfl) (Ev.ite_pos rfl (Ev.ite_pos rfl (Ev.const ?_)))))
  simp
end Go.Proofs.YtfeciafdioepiaaGreatDoor.Pure
namespace Go.Proofs.YtfeciafdioepiaaGreatDoor.articleBodies
open Go.ChangeShapes Go.WideShapes Go.ChangeAt Go.RowKit
open Go.ChangeMaps (open_string shut_string)
set_option linter.unusedVariables false
theorem own : ownKnob Tryz.prog.godebug = none := by kernel_rfl
set_option maxRecDepth 100000 in
theorem lifted (os : Os) (started : os.Started) (H : Type) (enc : TypeId × Value → H) :
    ReturnsInHanded {} Tryz.checked os 4 .any (fun w args => (Rows.articleBodiesSpec.pre enc Tryz.prog Tryz.f4 Rows.articleBodiesRow.domain false w args ∧ laidMetH Tryz.prog Rows.articleBodiesRow.laid w) ∧ sizedMet enc Tryz.prog Tryz.f4 (OpenSpec.ofChange Rows.articleBodiesSpec) false w args) (Rows.articleBodiesSpec.post enc Tryz.prog Tryz.f4 false true false false) := by
  refine handed_laid own started (by kernel_rfl) Tryz.func4
    (ChangeSpec.witness_shaped (enc := enc) (C := Tryz.checked) (os := os) (X := fun w _ => laidMetH Tryz.prog Rows.articleBodiesRow.laid w) false (World.laidAll Tryz.prog os Rows.articleBodiesRow.laid) #[.string ByteArray.empty] 8 (World.laidAll_os _ _ _)
      (World.shaped_of_ZipB (by kernel_rfl) (by kernel_rfl)) (by kernel_rfl) (by kernel_rfl) (by kernel_rfl)
      (by rw [MakeChecks.laidMetH_plain _ _ _ (by kernel_rfl)]; exact laidMet_laidAll _ (by kernel_rfl) (by kernel_rfl))) ?_
  intro W base args ds gs before hval0 hW hcnd hsz0 hL hsh _
  have hsz : (DataW.weightsEach Tryz.prog (Tryz.f4.params.toList ++ Rows.articleBodiesSpec.plain.varTypes Tryz.prog) (ds ++ gs)).all (· ≤ reachBytes) = true := hsz0
  have hval : ∀ (j : Nat) t v, Tryz.f4.params[j]? = some t → args[j]? = some v → Value.okWide Tryz.prog W .any base t v := hval0
  have hW' := hW
  obtain ⟨p, q, hA0, hV, rfl, hfz, hnd⟩ := hW
  have hA : DataW.TrodAll enc Tryz.prog W 0 (fun _ => true) true Tryz.f4.params.toList args.toList ds p := hA0
  rw [Tryz.params4] at hA hval hsz
  obtain ⟨v0, vs0, d0, ds0, p0, q0, hargs, rfl, rfl, h0, r0⟩ := trodAll_cons hA
  obtain ⟨rfl, rfl, rfl⟩ := trodAll_nil r0
  obtain rfl : args = #[v0] := by cases args; simp_all
  obtain ⟨rfl, rfl⟩ := trodVars_none hV
  obtain ⟨a0, rfl, rfl, rfl, y0⟩ := open_string Tryz.underlying9 (hval 0 9 v0 rfl rfl) h0
  have w0 : a0.size ≤ 140737488351232 := by
    have z := sized_string hsz (j := 0) (t := 9) rfl rfl
    rw [Array.length_toList] at z
    exact z
  clear hA0 hval0 hsz0 hsz
  refine (PL.bulletinlaw15_ArticleBodies.walk Pure.ArticleBodies a0 W (Tryz.laysM143.s1_3 W hsh) w0).mono fun e W' ⟨he, bel⟩ => ?_
  subst he
  exact ⟨_, rfl, _, _, _, [], _, [], hW', trodAll_mk1 (shut_bool Tryz.underlying4 _), (trodAll_cons_mk (shut_string Tryz.underlying9 y0) trodAll_mk0), rfl, bel.frame _, fun h => by cases h⟩
theorem over : Rows.articleBodiesRow.holds Tryz.pinned (OpenSpec.ofChange Rows.articleBodiesSpec) :=
  OpenClaim.holds_of_wide 4 Tryz.f4 rfl rfl rfl rfl rfl rfl rfl ⟨rfl, rfl, rfl, rfl, rfl⟩ rfl rfl rfl rfl rfl (by kernel_rfl) Tryz.func4 (by kernel_rfl)
    (of_decide_eq_true (by kernel_rfl)) (by unfold Func.isWrapper; first | (rw [if_pos (by decide +kernel)]; kernel_rfl) | (rw [if_neg (by decide +kernel)]; exact ⟨rfl, rfl⟩))
    (fun os started H enc _ => lifted os started H enc)
theorem row_holds : Rows.ArticleBodiesSaid := over
theorem card_holds : Rows.ArticleBodiesCardSaid :=
  Claim7.holds_tied_plain_at .later [] [.data, .pinned] true (true, "0ed969f1a3953f9b426fc905d95e5da96efd084e39c94fceb3821d79c3635a2d") false row_holds (fun _ h => by cases h) (by kernel_rfl) (fun _ h => by cases h) articleBodies_row_tie rfl ⟨rfl, rfl⟩ (by kernel_rfl) rfl
    (fun f fn hf hfn => by
      obtain rfl : f = 4 := Option.some.inj ((show Tryz.prog.funcNamed "bulletin/bulletinlaw15.ArticleBodies" = some 4 by kernel_rfl).symm.trans hf) |>.symm
      obtain rfl : fn = Tryz.f4 := (Option.some.inj (Tryz.func4.symm.trans hfn)).symm
      exact ⟨by kernel_rfl, fun j t ht => by
        rw [Tryz.params4] at ht
        have hm : t ∈ [9] := by simpa using Array.mem_of_getElem? ht
        have hall : ([9].all fun u => !Tryz.prog.wantsStandIn u) = true := by kernel_rfl
        exact (show Tryz.prog.wantsStandIn t = false by simpa using List.all_eq_true.1 hall t hm)⟩)
    (by kernel_rfl)
#print axioms card_holds
end Go.Proofs.YtfeciafdioepiaaGreatDoor.articleBodies
namespace Go.Proofs.YtfeciafdioepiaaGreatDoor
/-- The card, under a short name, for the claim. -/
theorem articleBodies_holds : Rows.ArticleBodiesCardSaid := articleBodies.card_holds
end Go.Proofs.YtfeciafdioepiaaGreatDoor
