/- The row of ArticleToLine over the listed tables, and its tied card. -/
import Derived.Test.YtfeciafdioepiaaGreatDoorProg
import Derived.Below
import Derived.Deep.Draws
import Derived.Deep.AppendLies
import Derived.Maps.AppendAt
import Derived.OwnWalk
import Derived.Laws.BytesArg
import Derived.Laws.MakeOwn
import Derived.Laws.OwnMore
import Derived.Deep.OwnRows
import Derived.Tactics
import Derived.Lib.ConvBytes
import Derived.Laws.Slices
import Derived.WalkKit
import Derived.KernelRfl
import Derived.RowKit3
import Derived.Deep.LoopGhost
import Derived.Deep.QuietTactic
import Derived.BigQuiet
import Derived.WideLaws
import Derived.Deep.DeepCutAuto
import Derived.Deep.CutBlock
import Derived.Deep.RegionHeld3
import Derived.Laws.Rows
import Derived.Lib.AppendStr
import Derived.ArgAppend
import Derived.Laws.IdiomCopy
import Derived.OrdersHeld
import Derived.Laws.BitsLemmas
import Derived.RowKit
import Derived.Test.YtfeciafdioepiaaGreatDoorHTo5
import Derived.Test.YtfeciafdioepiaaGreatDoorHTo0
import Derived.Test.YtfeciafdioepiaaGreatDoorHTo4
import Derived.Test.YtfeciafdioepiaaGreatDoorWWords
import Derived.Test.YtfeciafdioepiaaGreatDoorWLast
import Derived.Test.YtfeciafdioepiaaGreatDoorWTab
import Derived.Test.YtfeciafdioepiaaGreatDoorWFour
import Derived.Test.YtfeciafdioepiaaGreatDoorWQPut
import Derived.Test.YtfeciafdioepiaaGreatDoorWApart
import Derived.Test.YtfeciafdioepiaaGreatDoorWArr
import Derived.Test.YtfeciafdioepiaaGreatDoorWZeros
import Derived.Test.YtfeciafdioepiaaGreatDoorWFoot
import Derived.Test.YtfeciafdioepiaaGreatDoorWKept
import Derived.Test.YtfeciafdioepiaaGreatDoorWShare
import Derived.Test.YtfeciafdioepiaaGreatDoorWN
import Derived.Test.YtfeciafdioepiaaGreatDoorWFootNe
import Derived.Test.YtfeciafdioepiaaGreatDoorWAt
import Derived.Test.YtfeciafdioepiaaGreatDoorWEqStruct
import Derived.Test.YtfeciafdioepiaaGreatDoorWRepsOne
import Derived.Test.YtfeciafdioepiaaGreatDoorWInv
import Derived.Test.YtfeciafdioepiaaGreatDoorWInvWords
import Derived.Test.YtfeciafdioepiaaGreatDoorWGuard
import Derived.Test.YtfeciafdioepiaaGreatDoorWNEv
import Derived.Test.YtfeciafdioepiaaGreatDoorWMore
import Derived.Test.YtfeciafdioepiaaGreatDoorHTo3
import Derived.Lib.CountLaws
import Derived.Lib.IndexBytes
import Derived.Test.YtfeciafdioepiaaGreatDoorRows
import Derived.Test.YtfeciafdioepiaaGreatDoorCards
import Derived.Test.YtfeciafdioepiaaGreatDoorTie
import Derived.ProofKit
import Derived.OpenShut
import Derived.ShutString
import Derived.ChangeOld
import Derived.SizedLaws
import Derived.HandedShaped
namespace Go.Proofs.YtfeciafdioepiaaGreatDoor.PL
open Go.Proofs.YtfeciafdioepiaaGreatDoor.PA
open Go.Proofs.YtfeciafdioepiaaGreatDoor
open Go.RowKit Go.Proofs.YtfeciafdioepiaaGreatDoorW.PrintWords Go.Proofs.YtfeciafdioepiaaGreatDoorW.PrintLast Go.Proofs.YtfeciafdioepiaaGreatDoorW.PrintMore
attribute [local go_sem] max2_int min2_int max_two min_two max_three min_three max_four min_four   -- for this text's walks alone
set_option linter.unusedVariables false
set_option linter.unusedSimpArgs false

/-! ### bulletinlaw15_ArticleStrips: function 8 -/
/-! ### bulletinlaw15_ArticleToLine: function 9 -/
def bulletinlaw15_ArticleToLine.f (k : Nat) (a0 : ByteArray) : Option (Bool) := (PA.bulletinlaw15_short.f a0 3000).bind fun t187 => ((PC.article_ToLine.f t187).bind fun bt188 => ((PA.bulletinref15_ToLine.f k t187).bind fun bt190 => ((PC.article_FromLine.f k bt188.1).bind fun bt192 => ((GV.known.f).bind fun t195 => (if t195 = true then (if bt188.1.toList = bt190.1.toList then (if bt188.2 = bt190.2 then (if bt188.2 = 0 then (if bt192.1.toList = t187.toList then (if bt192.2.1 = 0 then (some (bt192.2.2 == 0)) else (some false)) else (some false)) else (some true)) else (some false)) else (some false)) else (some false))))))
set_option maxHeartbeats 8000000 in
set_option maxRecDepth 100000 in
theorem bulletinlaw15_ArticleToLine.calls (k : Nat) (a0 : ByteArray) (r : Bool) (w : World) (hgm : Gm w) (h : bulletinlaw15_ArticleToLine.f k a0 = some r) :
    Calls Tryz.prog 9 #[.string a0] w fun e w' => e = .returned (.bool r) ∧ Below w.heap.size w w' := by
  have HGM := Aside0.mk hgm
  clear hgm
  have HB := Aside0.mk (Below.refl w.heap.size w)
  have H : ((PA.bulletinlaw15_short.f a0 3000).bind fun t187 => ((PC.article_ToLine.f t187).bind fun bt188 => ((PA.bulletinref15_ToLine.f k t187).bind fun bt190 => ((PC.article_FromLine.f k bt188.1).bind fun bt192 => ((GV.known.f).bind fun t195 => (if t195 = true then (if bt188.1.toList = bt190.1.toList then (if bt188.2 = bt190.2 then (if bt188.2 = 0 then (if bt192.1.toList = t187.toList then (if bt192.2.1 = 0 then (some (bt192.2.2 == 0)) else (some false)) else (some false)) else (some true)) else (some false)) else (some false)) else (some false))))))) = some r := h
  clear h
  replace H := Option.bind_eq_some_iff.mp H
  obtain ⟨t187, A20, H⟩ := H
  replace H : ((PC.article_ToLine.f t187).bind fun bt188 => ((PA.bulletinref15_ToLine.f k t187).bind fun bt190 => ((PC.article_FromLine.f k bt188.1).bind fun bt192 => ((GV.known.f).bind fun t195 => (if t195 = true then (if bt188.1.toList = bt190.1.toList then (if bt188.2 = bt190.2 then (if bt188.2 = 0 then (if bt192.1.toList = t187.toList then (if bt192.2.1 = 0 then (some (bt192.2.2 == 0)) else (some false)) else (some false)) else (some true)) else (some false)) else (some false)) else (some false)))))) = some r := H
  have A2 := Aside0.mk A20
  clear A20
  replace H := Option.bind_eq_some_iff.mp H
  obtain ⟨⟨t188, t189⟩, A30, H⟩ := H
  replace H : ((PA.bulletinref15_ToLine.f k t187).bind fun bt190 => ((PC.article_FromLine.f k t188).bind fun bt192 => ((GV.known.f).bind fun t195 => (if t195 = true then (if t188.toList = bt190.1.toList then (if t189 = bt190.2 then (if t189 = 0 then (if bt192.1.toList = t187.toList then (if bt192.2.1 = 0 then (some (bt192.2.2 == 0)) else (some false)) else (some false)) else (some true)) else (some false)) else (some false)) else (some false))))) = some r := H
  have A3 := Aside0.mk A30
  clear A30
  replace H := Option.bind_eq_some_iff.mp H
  obtain ⟨⟨t190, t191⟩, A40, H⟩ := H
  replace H : ((PC.article_FromLine.f k t188).bind fun bt192 => ((GV.known.f).bind fun t195 => (if t195 = true then (if t188.toList = t190.toList then (if t189 = t191 then (if t189 = 0 then (if bt192.1.toList = t187.toList then (if bt192.2.1 = 0 then (some (bt192.2.2 == 0)) else (some false)) else (some false)) else (some true)) else (some false)) else (some false)) else (some false)))) = some r := H
  have A4 := Aside0.mk A40
  clear A40
  replace H := Option.bind_eq_some_iff.mp H
  obtain ⟨⟨t192, t193, t194⟩, A50, H⟩ := H
  replace H : ((GV.known.f).bind fun t195 => (if t195 = true then (if t188.toList = t190.toList then (if t189 = t191 then (if t189 = 0 then (if t192.toList = t187.toList then (if t193 = 0 then (some (t194 == 0)) else (some false)) else (some false)) else (some true)) else (some false)) else (some false)) else (some false))) = some r := H
  have A5 := Aside0.mk A50
  clear A50
  replace H := Option.bind_eq_some_iff.mp H
  obtain ⟨t195, A60, H⟩ := H
  replace H : (if t195 = true then (if t188.toList = t190.toList then (if t189 = t191 then (if t189 = 0 then (if t192.toList = t187.toList then (if t193 = 0 then (some (t194 == 0)) else (some false)) else (some false)) else (some true)) else (some false)) else (some false)) else (some false)) = some r := H
  have A6 := Aside0.mk A60
  clear A60
  by_cases c7 : t195 = true
  · subst c7
    have H1 : (if t188.toList = t190.toList then (if t189 = t191 then (if t189 = 0 then (if t192.toList = t187.toList then (if t193 = 0 then (some (t194 == 0)) else (some false)) else (some false)) else (some true)) else (some false)) else (some false)) = some r := by rw [if_pos rfl] at H; exact H
    clear H
    have H := H1
    clear H1
    by_cases c8 : t188.toList = t190.toList
    · rw [if_pos c8] at H
      have c8b0 : (t188.toList == t190.toList) = true := beq_iff_eq.mpr c8
      have c8b1 : (t188.toList != t190.toList) = false := bne_eq_false_iff_eq.mpr c8
      clear c8
      by_cases c9 : t189 = t191
      · rw [if_pos c9] at H
        have c9b0 : (t189 == t191) = true := beq_iff_eq.mpr c9
        have c9b1 : (t189 != t191) = false := bne_eq_false_iff_eq.mpr c9
        clear c9
        by_cases c10 : t189 = 0
        · rw [if_pos c10] at H
          have c10b0 : (t189 == 0) = true := beq_iff_eq.mpr c10
          have c10b1 : (t189 != 0) = false := bne_eq_false_iff_eq.mpr c10
          clear c10
          by_cases c11 : t192.toList = t187.toList
          · rw [if_pos c11] at H
            have c11b0 : (t192.toList == t187.toList) = true := beq_iff_eq.mpr c11
            have c11b1 : (t192.toList != t187.toList) = false := bne_eq_false_iff_eq.mpr c11
            clear c11
            by_cases c12 : t193 = 0
            · rw [if_pos c12] at H
              have c12b0 : (t193 == 0) = true := beq_iff_eq.mpr c12
              have c12b1 : (t193 != 0) = false := bne_eq_false_iff_eq.mpr c12
              clear c12
              obtain rfl := Option.some.inj H
              go_enter Tryz.func9, Tryz.ntmps9
              go_wp2_with (first | ((with_reducible refine gate_callee (f := 11) rfl ?_); refine goesL_ (some 11) rfl rfl Tryz.func11 (by kernel_rfl) rfl #[.string a0, .int .i64 3000] rfl (by (try simp only [List.map_toArray, List.map_cons, List.map_nil]); first | done | rfl | (simp only [List.length_drop, List.length_take]; rfl)) ?_; (with_reducible refine (PA.bulletinlaw15_short.calls a0 3000 t187 _ A2.out).mono ?_); rintro e w13 ⟨rfl, hb⟩; refine ⟨_, rfl, ?_⟩; have n0_ := Aside0.mk (below_step (by repeat (first | (with_reducible first | exact HB.out | apply below_alloc | apply pw_below_drewN | apply below_drew1) | exact HB.out)) hb); clear HB; have HB := n0_; clear n0_; (try clear hb); (try clear hb2); (try clear hk); (try clear hi)) | ((with_reducible refine gate_callee (f := 29) rfl ?_); refine goesL_ (some 14) rfl rfl Tryz.func29 (by kernel_rfl) rfl #[.string t187] rfl (by (try simp only [List.map_toArray, List.map_cons, List.map_nil]); first | done | rfl | (simp only [List.length_drop, List.length_take]; rfl)) ?_; (with_reducible refine (PC.article_ToLine.calls t187 t188 t189 _ ?side1 A3.out).mono ?_); (case side1 => exact gm_at HGM.out (by repeat (first | (with_reducible first | exact HB.out | apply below_alloc | apply pw_below_drewN | apply below_drew1) | exact HB.out))); rintro e w14 ⟨rfl, hb⟩; refine ⟨_, rfl, ?_⟩; have n0_ := Aside0.mk (below_step (by repeat (first | (with_reducible first | exact HB.out | apply below_alloc | apply pw_below_drewN | apply below_drew1) | exact HB.out)) hb); clear HB; have HB := n0_; clear n0_; (try clear hb); (try clear hb2); (try clear hk); (try clear hi)) | ((with_reducible refine gate_callee (f := 30) rfl ?_); refine goesL_ (some 19) rfl rfl Tryz.func30 (by kernel_rfl) rfl #[.string t187] rfl (by (try simp only [List.map_toArray, List.map_cons, List.map_nil]); first | done | rfl | (simp only [List.length_drop, List.length_take]; rfl)) ?_; (with_reducible refine (PA.bulletinref15_ToLine.calls k t187 t190 t191 _ A4.out).mono ?_); rintro e w15 ⟨rfl, hb⟩; refine ⟨_, rfl, ?_⟩; have n0_ := Aside0.mk (below_step (by repeat (first | (with_reducible first | exact HB.out | apply below_alloc | apply pw_below_drewN | apply below_drew1) | exact HB.out)) hb); clear HB; have HB := n0_; clear n0_; (try clear hb); (try clear hb2); (try clear hk); (try clear hi)) | ((with_reducible refine gate_callee (f := 31) rfl ?_); refine goesL_ (some 24) rfl rfl Tryz.func31 (by kernel_rfl) rfl #[.string t188] rfl (by (try simp only [List.map_toArray, List.map_cons, List.map_nil]); first | done | rfl | (simp only [List.length_drop, List.length_take]; rfl)) ?_; (with_reducible refine (PC.article_FromLine.calls k t188 t192 t193 t194 _ ?side1 A5.out).mono ?_); (case side1 => exact gm_at HGM.out (by repeat (first | (with_reducible first | exact HB.out | apply below_alloc | apply pw_below_drewN | apply below_drew1) | exact HB.out))); rintro e w16 ⟨rfl, hb⟩; refine ⟨_, rfl, ?_⟩; have n0_ := Aside0.mk (below_step (by repeat (first | (with_reducible first | exact HB.out | apply below_alloc | apply pw_below_drewN | apply below_drew1) | exact HB.out)) hb); clear HB; have HB := n0_; clear n0_; (try clear hb); (try clear hb2); (try clear hk); (try clear hi)) | ((with_reducible refine gate_callee (f := 14) rfl ?_); refine goesL_ (some 28) rfl rfl Tryz.func14 (by kernel_rfl) rfl #[] rfl (by (try simp only [List.map_toArray, List.map_cons, List.map_nil]); first | done | rfl | (simp only [List.length_drop, List.length_take]; rfl)) ?_; (with_reducible refine (GV.known.calls  true _ ?side1 A6.out).mono ?_); (case side1 => exact gm_at HGM.out (by repeat (first | (with_reducible first | exact HB.out | apply below_alloc | apply pw_below_drewN | apply below_drew1) | exact HB.out))); rintro e w17 ⟨rfl, hb⟩; refine ⟨_, rfl, ?_⟩; have n0_ := Aside0.mk (below_step (by repeat (first | (with_reducible first | exact HB.out | apply below_alloc | apply pw_below_drewN | apply below_drew1) | exact HB.out)) hb); clear HB; have HB := n0_; clear n0_; (try clear hb); (try clear hb2); (try clear hk); (try clear hi)))
              go_ret
              exact ⟨by first | rfl | (simp [errW_none, errW_some] <;> rfl) | (simp [*, errW_none, errW_some] <;> rfl), by repeat (first | (with_reducible first | exact HB.out | apply below_alloc | apply pw_below_drewN | apply below_drew1) | exact HB.out)⟩
            · rw [if_neg c12] at H
              have c12b0 : (t193 == 0) = false := beq_eq_false_iff_ne.mpr c12
              have c12b1 : (t193 != 0) = true := bne_iff_ne.mpr c12
              obtain rfl := Option.some.inj H
              go_enter Tryz.func9, Tryz.ntmps9
              go_wp2_with (first | ((with_reducible refine gate_callee (f := 11) rfl ?_); refine goesL_ (some 11) rfl rfl Tryz.func11 (by kernel_rfl) rfl #[.string a0, .int .i64 3000] rfl (by (try simp only [List.map_toArray, List.map_cons, List.map_nil]); first | done | rfl | (simp only [List.length_drop, List.length_take]; rfl)) ?_; (with_reducible refine (PA.bulletinlaw15_short.calls a0 3000 t187 _ A2.out).mono ?_); rintro e w18 ⟨rfl, hb⟩; refine ⟨_, rfl, ?_⟩; have n0_ := Aside0.mk (below_step (by repeat (first | (with_reducible first | exact HB.out | apply below_alloc | apply pw_below_drewN | apply below_drew1) | exact HB.out)) hb); clear HB; have HB := n0_; clear n0_; (try clear hb); (try clear hb2); (try clear hk); (try clear hi)) | ((with_reducible refine gate_callee (f := 29) rfl ?_); refine goesL_ (some 14) rfl rfl Tryz.func29 (by kernel_rfl) rfl #[.string t187] rfl (by (try simp only [List.map_toArray, List.map_cons, List.map_nil]); first | done | rfl | (simp only [List.length_drop, List.length_take]; rfl)) ?_; (with_reducible refine (PC.article_ToLine.calls t187 t188 t189 _ ?side1 A3.out).mono ?_); (case side1 => exact gm_at HGM.out (by repeat (first | (with_reducible first | exact HB.out | apply below_alloc | apply pw_below_drewN | apply below_drew1) | exact HB.out))); rintro e w19 ⟨rfl, hb⟩; refine ⟨_, rfl, ?_⟩; have n0_ := Aside0.mk (below_step (by repeat (first | (with_reducible first | exact HB.out | apply below_alloc | apply pw_below_drewN | apply below_drew1) | exact HB.out)) hb); clear HB; have HB := n0_; clear n0_; (try clear hb); (try clear hb2); (try clear hk); (try clear hi)) | ((with_reducible refine gate_callee (f := 30) rfl ?_); refine goesL_ (some 19) rfl rfl Tryz.func30 (by kernel_rfl) rfl #[.string t187] rfl (by (try simp only [List.map_toArray, List.map_cons, List.map_nil]); first | done | rfl | (simp only [List.length_drop, List.length_take]; rfl)) ?_; (with_reducible refine (PA.bulletinref15_ToLine.calls k t187 t190 t191 _ A4.out).mono ?_); rintro e w20 ⟨rfl, hb⟩; refine ⟨_, rfl, ?_⟩; have n0_ := Aside0.mk (below_step (by repeat (first | (with_reducible first | exact HB.out | apply below_alloc | apply pw_below_drewN | apply below_drew1) | exact HB.out)) hb); clear HB; have HB := n0_; clear n0_; (try clear hb); (try clear hb2); (try clear hk); (try clear hi)) | ((with_reducible refine gate_callee (f := 31) rfl ?_); refine goesL_ (some 24) rfl rfl Tryz.func31 (by kernel_rfl) rfl #[.string t188] rfl (by (try simp only [List.map_toArray, List.map_cons, List.map_nil]); first | done | rfl | (simp only [List.length_drop, List.length_take]; rfl)) ?_; (with_reducible refine (PC.article_FromLine.calls k t188 t192 t193 t194 _ ?side1 A5.out).mono ?_); (case side1 => exact gm_at HGM.out (by repeat (first | (with_reducible first | exact HB.out | apply below_alloc | apply pw_below_drewN | apply below_drew1) | exact HB.out))); rintro e w21 ⟨rfl, hb⟩; refine ⟨_, rfl, ?_⟩; have n0_ := Aside0.mk (below_step (by repeat (first | (with_reducible first | exact HB.out | apply below_alloc | apply pw_below_drewN | apply below_drew1) | exact HB.out)) hb); clear HB; have HB := n0_; clear n0_; (try clear hb); (try clear hb2); (try clear hk); (try clear hi)) | ((with_reducible refine gate_callee (f := 14) rfl ?_); refine goesL_ (some 28) rfl rfl Tryz.func14 (by kernel_rfl) rfl #[] rfl (by (try simp only [List.map_toArray, List.map_cons, List.map_nil]); first | done | rfl | (simp only [List.length_drop, List.length_take]; rfl)) ?_; (with_reducible refine (GV.known.calls  true _ ?side1 A6.out).mono ?_); (case side1 => exact gm_at HGM.out (by repeat (first | (with_reducible first | exact HB.out | apply below_alloc | apply pw_below_drewN | apply below_drew1) | exact HB.out))); rintro e w22 ⟨rfl, hb⟩; refine ⟨_, rfl, ?_⟩; have n0_ := Aside0.mk (below_step (by repeat (first | (with_reducible first | exact HB.out | apply below_alloc | apply pw_below_drewN | apply below_drew1) | exact HB.out)) hb); clear HB; have HB := n0_; clear n0_; (try clear hb); (try clear hb2); (try clear hk); (try clear hi)))
              go_ret
              exact ⟨by first | rfl | (simp [errW_none, errW_some] <;> rfl) | (simp [*, errW_none, errW_some] <;> rfl), by repeat (first | (with_reducible first | exact HB.out | apply below_alloc | apply pw_below_drewN | apply below_drew1) | exact HB.out)⟩
          · rw [if_neg c11] at H
            have c11b0 : (t192.toList == t187.toList) = false := beq_eq_false_iff_ne.mpr c11
            have c11b1 : (t192.toList != t187.toList) = true := bne_iff_ne.mpr c11
            obtain rfl := Option.some.inj H
            go_enter Tryz.func9, Tryz.ntmps9
            go_wp2_with (first | ((with_reducible refine gate_callee (f := 11) rfl ?_); refine goesL_ (some 11) rfl rfl Tryz.func11 (by kernel_rfl) rfl #[.string a0, .int .i64 3000] rfl (by (try simp only [List.map_toArray, List.map_cons, List.map_nil]); first | done | rfl | (simp only [List.length_drop, List.length_take]; rfl)) ?_; (with_reducible refine (PA.bulletinlaw15_short.calls a0 3000 t187 _ A2.out).mono ?_); rintro e w23 ⟨rfl, hb⟩; refine ⟨_, rfl, ?_⟩; have n0_ := Aside0.mk (below_step (by repeat (first | (with_reducible first | exact HB.out | apply below_alloc | apply pw_below_drewN | apply below_drew1) | exact HB.out)) hb); clear HB; have HB := n0_; clear n0_; (try clear hb); (try clear hb2); (try clear hk); (try clear hi)) | ((with_reducible refine gate_callee (f := 29) rfl ?_); refine goesL_ (some 14) rfl rfl Tryz.func29 (by kernel_rfl) rfl #[.string t187] rfl (by (try simp only [List.map_toArray, List.map_cons, List.map_nil]); first | done | rfl | (simp only [List.length_drop, List.length_take]; rfl)) ?_; (with_reducible refine (PC.article_ToLine.calls t187 t188 t189 _ ?side1 A3.out).mono ?_); (case side1 => exact gm_at HGM.out (by repeat (first | (with_reducible first | exact HB.out | apply below_alloc | apply pw_below_drewN | apply below_drew1) | exact HB.out))); rintro e w24 ⟨rfl, hb⟩; refine ⟨_, rfl, ?_⟩; have n0_ := Aside0.mk (below_step (by repeat (first | (with_reducible first | exact HB.out | apply below_alloc | apply pw_below_drewN | apply below_drew1) | exact HB.out)) hb); clear HB; have HB := n0_; clear n0_; (try clear hb); (try clear hb2); (try clear hk); (try clear hi)) | ((with_reducible refine gate_callee (f := 30) rfl ?_); refine goesL_ (some 19) rfl rfl Tryz.func30 (by kernel_rfl) rfl #[.string t187] rfl (by (try simp only [List.map_toArray, List.map_cons, List.map_nil]); first | done | rfl | (simp only [List.length_drop, List.length_take]; rfl)) ?_; (with_reducible refine (PA.bulletinref15_ToLine.calls k t187 t190 t191 _ A4.out).mono ?_); rintro e w25 ⟨rfl, hb⟩; refine ⟨_, rfl, ?_⟩; have n0_ := Aside0.mk (below_step (by repeat (first | (with_reducible first | exact HB.out | apply below_alloc | apply pw_below_drewN | apply below_drew1) | exact HB.out)) hb); clear HB; have HB := n0_; clear n0_; (try clear hb); (try clear hb2); (try clear hk); (try clear hi)) | ((with_reducible refine gate_callee (f := 31) rfl ?_); refine goesL_ (some 24) rfl rfl Tryz.func31 (by kernel_rfl) rfl #[.string t188] rfl (by (try simp only [List.map_toArray, List.map_cons, List.map_nil]); first | done | rfl | (simp only [List.length_drop, List.length_take]; rfl)) ?_; (with_reducible refine (PC.article_FromLine.calls k t188 t192 t193 t194 _ ?side1 A5.out).mono ?_); (case side1 => exact gm_at HGM.out (by repeat (first | (with_reducible first | exact HB.out | apply below_alloc | apply pw_below_drewN | apply below_drew1) | exact HB.out))); rintro e w26 ⟨rfl, hb⟩; refine ⟨_, rfl, ?_⟩; have n0_ := Aside0.mk (below_step (by repeat (first | (with_reducible first | exact HB.out | apply below_alloc | apply pw_below_drewN | apply below_drew1) | exact HB.out)) hb); clear HB; have HB := n0_; clear n0_; (try clear hb); (try clear hb2); (try clear hk); (try clear hi)) | ((with_reducible refine gate_callee (f := 14) rfl ?_); refine goesL_ (some 28) rfl rfl Tryz.func14 (by kernel_rfl) rfl #[] rfl (by (try simp only [List.map_toArray, List.map_cons, List.map_nil]); first | done | rfl | (simp only [List.length_drop, List.length_take]; rfl)) ?_; (with_reducible refine (GV.known.calls  true _ ?side1 A6.out).mono ?_); (case side1 => exact gm_at HGM.out (by repeat (first | (with_reducible first | exact HB.out | apply below_alloc | apply pw_below_drewN | apply below_drew1) | exact HB.out))); rintro e w27 ⟨rfl, hb⟩; refine ⟨_, rfl, ?_⟩; have n0_ := Aside0.mk (below_step (by repeat (first | (with_reducible first | exact HB.out | apply below_alloc | apply pw_below_drewN | apply below_drew1) | exact HB.out)) hb); clear HB; have HB := n0_; clear n0_; (try clear hb); (try clear hb2); (try clear hk); (try clear hi)))
            go_ret
            exact ⟨by first | rfl | (simp [errW_none, errW_some] <;> rfl) | (simp [*, errW_none, errW_some] <;> rfl), by repeat (first | (with_reducible first | exact HB.out | apply below_alloc | apply pw_below_drewN | apply below_drew1) | exact HB.out)⟩
        · rw [if_neg c10] at H
          have c10b0 : (t189 == 0) = false := beq_eq_false_iff_ne.mpr c10
          have c10b1 : (t189 != 0) = true := bne_iff_ne.mpr c10
          obtain rfl := Option.some.inj H
          go_enter Tryz.func9, Tryz.ntmps9
          go_wp2_with (first | ((with_reducible refine gate_callee (f := 11) rfl ?_); refine goesL_ (some 11) rfl rfl Tryz.func11 (by kernel_rfl) rfl #[.string a0, .int .i64 3000] rfl (by (try simp only [List.map_toArray, List.map_cons, List.map_nil]); first | done | rfl | (simp only [List.length_drop, List.length_take]; rfl)) ?_; (with_reducible refine (PA.bulletinlaw15_short.calls a0 3000 t187 _ A2.out).mono ?_); rintro e w28 ⟨rfl, hb⟩; refine ⟨_, rfl, ?_⟩; have n0_ := Aside0.mk (below_step (by repeat (first | (with_reducible first | exact HB.out | apply below_alloc | apply pw_below_drewN | apply below_drew1) | exact HB.out)) hb); clear HB; have HB := n0_; clear n0_; (try clear hb); (try clear hb2); (try clear hk); (try clear hi)) | ((with_reducible refine gate_callee (f := 29) rfl ?_); refine goesL_ (some 14) rfl rfl Tryz.func29 (by kernel_rfl) rfl #[.string t187] rfl (by (try simp only [List.map_toArray, List.map_cons, List.map_nil]); first | done | rfl | (simp only [List.length_drop, List.length_take]; rfl)) ?_; (with_reducible refine (PC.article_ToLine.calls t187 t188 t189 _ ?side1 A3.out).mono ?_); (case side1 => exact gm_at HGM.out (by repeat (first | (with_reducible first | exact HB.out | apply below_alloc | apply pw_below_drewN | apply below_drew1) | exact HB.out))); rintro e w29 ⟨rfl, hb⟩; refine ⟨_, rfl, ?_⟩; have n0_ := Aside0.mk (below_step (by repeat (first | (with_reducible first | exact HB.out | apply below_alloc | apply pw_below_drewN | apply below_drew1) | exact HB.out)) hb); clear HB; have HB := n0_; clear n0_; (try clear hb); (try clear hb2); (try clear hk); (try clear hi)) | ((with_reducible refine gate_callee (f := 30) rfl ?_); refine goesL_ (some 19) rfl rfl Tryz.func30 (by kernel_rfl) rfl #[.string t187] rfl (by (try simp only [List.map_toArray, List.map_cons, List.map_nil]); first | done | rfl | (simp only [List.length_drop, List.length_take]; rfl)) ?_; (with_reducible refine (PA.bulletinref15_ToLine.calls k t187 t190 t191 _ A4.out).mono ?_); rintro e w30 ⟨rfl, hb⟩; refine ⟨_, rfl, ?_⟩; have n0_ := Aside0.mk (below_step (by repeat (first | (with_reducible first | exact HB.out | apply below_alloc | apply pw_below_drewN | apply below_drew1) | exact HB.out)) hb); clear HB; have HB := n0_; clear n0_; (try clear hb); (try clear hb2); (try clear hk); (try clear hi)) | ((with_reducible refine gate_callee (f := 31) rfl ?_); refine goesL_ (some 24) rfl rfl Tryz.func31 (by kernel_rfl) rfl #[.string t188] rfl (by (try simp only [List.map_toArray, List.map_cons, List.map_nil]); first | done | rfl | (simp only [List.length_drop, List.length_take]; rfl)) ?_; (with_reducible refine (PC.article_FromLine.calls k t188 t192 t193 t194 _ ?side1 A5.out).mono ?_); (case side1 => exact gm_at HGM.out (by repeat (first | (with_reducible first | exact HB.out | apply below_alloc | apply pw_below_drewN | apply below_drew1) | exact HB.out))); rintro e w31 ⟨rfl, hb⟩; refine ⟨_, rfl, ?_⟩; have n0_ := Aside0.mk (below_step (by repeat (first | (with_reducible first | exact HB.out | apply below_alloc | apply pw_below_drewN | apply below_drew1) | exact HB.out)) hb); clear HB; have HB := n0_; clear n0_; (try clear hb); (try clear hb2); (try clear hk); (try clear hi)) | ((with_reducible refine gate_callee (f := 14) rfl ?_); refine goesL_ (some 28) rfl rfl Tryz.func14 (by kernel_rfl) rfl #[] rfl (by (try simp only [List.map_toArray, List.map_cons, List.map_nil]); first | done | rfl | (simp only [List.length_drop, List.length_take]; rfl)) ?_; (with_reducible refine (GV.known.calls  true _ ?side1 A6.out).mono ?_); (case side1 => exact gm_at HGM.out (by repeat (first | (with_reducible first | exact HB.out | apply below_alloc | apply pw_below_drewN | apply below_drew1) | exact HB.out))); rintro e w32 ⟨rfl, hb⟩; refine ⟨_, rfl, ?_⟩; have n0_ := Aside0.mk (below_step (by repeat (first | (with_reducible first | exact HB.out | apply below_alloc | apply pw_below_drewN | apply below_drew1) | exact HB.out)) hb); clear HB; have HB := n0_; clear n0_; (try clear hb); (try clear hb2); (try clear hk); (try clear hi)))
          go_ret
          exact ⟨by first | rfl | (simp [errW_none, errW_some] <;> rfl) | (simp [*, errW_none, errW_some] <;> rfl), by repeat (first | (with_reducible first | exact HB.out | apply below_alloc | apply pw_below_drewN | apply below_drew1) | exact HB.out)⟩
      · rw [if_neg c9] at H
        have c9b0 : (t189 == t191) = false := beq_eq_false_iff_ne.mpr c9
        have c9b1 : (t189 != t191) = true := bne_iff_ne.mpr c9
        obtain rfl := Option.some.inj H
        go_enter Tryz.func9, Tryz.ntmps9
        go_wp2_with (first | ((with_reducible refine gate_callee (f := 11) rfl ?_); refine goesL_ (some 11) rfl rfl Tryz.func11 (by kernel_rfl) rfl #[.string a0, .int .i64 3000] rfl (by (try simp only [List.map_toArray, List.map_cons, List.map_nil]); first | done | rfl | (simp only [List.length_drop, List.length_take]; rfl)) ?_; (with_reducible refine (PA.bulletinlaw15_short.calls a0 3000 t187 _ A2.out).mono ?_); rintro e w33 ⟨rfl, hb⟩; refine ⟨_, rfl, ?_⟩; have n0_ := Aside0.mk (below_step (by repeat (first | (with_reducible first | exact HB.out | apply below_alloc | apply pw_below_drewN | apply below_drew1) | exact HB.out)) hb); clear HB; have HB := n0_; clear n0_; (try clear hb); (try clear hb2); (try clear hk); (try clear hi)) | ((with_reducible refine gate_callee (f := 29) rfl ?_); refine goesL_ (some 14) rfl rfl Tryz.func29 (by kernel_rfl) rfl #[.string t187] rfl (by (try simp only [List.map_toArray, List.map_cons, List.map_nil]); first | done | rfl | (simp only [List.length_drop, List.length_take]; rfl)) ?_; (with_reducible refine (PC.article_ToLine.calls t187 t188 t189 _ ?side1 A3.out).mono ?_); (case side1 => exact gm_at HGM.out (by repeat (first | (with_reducible first | exact HB.out | apply below_alloc | apply pw_below_drewN | apply below_drew1) | exact HB.out))); rintro e w34 ⟨rfl, hb⟩; refine ⟨_, rfl, ?_⟩; have n0_ := Aside0.mk (below_step (by repeat (first | (with_reducible first | exact HB.out | apply below_alloc | apply pw_below_drewN | apply below_drew1) | exact HB.out)) hb); clear HB; have HB := n0_; clear n0_; (try clear hb); (try clear hb2); (try clear hk); (try clear hi)) | ((with_reducible refine gate_callee (f := 30) rfl ?_); refine goesL_ (some 19) rfl rfl Tryz.func30 (by kernel_rfl) rfl #[.string t187] rfl (by (try simp only [List.map_toArray, List.map_cons, List.map_nil]); first | done | rfl | (simp only [List.length_drop, List.length_take]; rfl)) ?_; (with_reducible refine (PA.bulletinref15_ToLine.calls k t187 t190 t191 _ A4.out).mono ?_); rintro e w35 ⟨rfl, hb⟩; refine ⟨_, rfl, ?_⟩; have n0_ := Aside0.mk (below_step (by repeat (first | (with_reducible first | exact HB.out | apply below_alloc | apply pw_below_drewN | apply below_drew1) | exact HB.out)) hb); clear HB; have HB := n0_; clear n0_; (try clear hb); (try clear hb2); (try clear hk); (try clear hi)) | ((with_reducible refine gate_callee (f := 31) rfl ?_); refine goesL_ (some 24) rfl rfl Tryz.func31 (by kernel_rfl) rfl #[.string t188] rfl (by (try simp only [List.map_toArray, List.map_cons, List.map_nil]); first | done | rfl | (simp only [List.length_drop, List.length_take]; rfl)) ?_; (with_reducible refine (PC.article_FromLine.calls k t188 t192 t193 t194 _ ?side1 A5.out).mono ?_); (case side1 => exact gm_at HGM.out (by repeat (first | (with_reducible first | exact HB.out | apply below_alloc | apply pw_below_drewN | apply below_drew1) | exact HB.out))); rintro e w36 ⟨rfl, hb⟩; refine ⟨_, rfl, ?_⟩; have n0_ := Aside0.mk (below_step (by repeat (first | (with_reducible first | exact HB.out | apply below_alloc | apply pw_below_drewN | apply below_drew1) | exact HB.out)) hb); clear HB; have HB := n0_; clear n0_; (try clear hb); (try clear hb2); (try clear hk); (try clear hi)) | ((with_reducible refine gate_callee (f := 14) rfl ?_); refine goesL_ (some 28) rfl rfl Tryz.func14 (by kernel_rfl) rfl #[] rfl (by (try simp only [List.map_toArray, List.map_cons, List.map_nil]); first | done | rfl | (simp only [List.length_drop, List.length_take]; rfl)) ?_; (with_reducible refine (GV.known.calls  true _ ?side1 A6.out).mono ?_); (case side1 => exact gm_at HGM.out (by repeat (first | (with_reducible first | exact HB.out | apply below_alloc | apply pw_below_drewN | apply below_drew1) | exact HB.out))); rintro e w37 ⟨rfl, hb⟩; refine ⟨_, rfl, ?_⟩; have n0_ := Aside0.mk (below_step (by repeat (first | (with_reducible first | exact HB.out | apply below_alloc | apply pw_below_drewN | apply below_drew1) | exact HB.out)) hb); clear HB; have HB := n0_; clear n0_; (try clear hb); (try clear hb2); (try clear hk); (try clear hi)))
        go_ret
        exact ⟨by first | rfl | (simp [errW_none, errW_some] <;> rfl) | (simp [*, errW_none, errW_some] <;> rfl), by repeat (first | (with_reducible first | exact HB.out | apply below_alloc | apply pw_below_drewN | apply below_drew1) | exact HB.out)⟩
    · rw [if_neg c8] at H
      have c8b0 : (t188.toList == t190.toList) = false := beq_eq_false_iff_ne.mpr c8
      have c8b1 : (t188.toList != t190.toList) = true := bne_iff_ne.mpr c8
      obtain rfl := Option.some.inj H
      go_enter Tryz.func9, Tryz.ntmps9
      go_wp2_with (first | ((with_reducible refine gate_callee (f := 11) rfl ?_); refine goesL_ (some 11) rfl rfl Tryz.func11 (by kernel_rfl) rfl #[.string a0, .int .i64 3000] rfl (by (try simp only [List.map_toArray, List.map_cons, List.map_nil]); first | done | rfl | (simp only [List.length_drop, List.length_take]; rfl)) ?_; (with_reducible refine (PA.bulletinlaw15_short.calls a0 3000 t187 _ A2.out).mono ?_); rintro e w38 ⟨rfl, hb⟩; refine ⟨_, rfl, ?_⟩; have n0_ := Aside0.mk (below_step (by repeat (first | (with_reducible first | exact HB.out | apply below_alloc | apply pw_below_drewN | apply below_drew1) | exact HB.out)) hb); clear HB; have HB := n0_; clear n0_; (try clear hb); (try clear hb2); (try clear hk); (try clear hi)) | ((with_reducible refine gate_callee (f := 29) rfl ?_); refine goesL_ (some 14) rfl rfl Tryz.func29 (by kernel_rfl) rfl #[.string t187] rfl (by (try simp only [List.map_toArray, List.map_cons, List.map_nil]); first | done | rfl | (simp only [List.length_drop, List.length_take]; rfl)) ?_; (with_reducible refine (PC.article_ToLine.calls t187 t188 t189 _ ?side1 A3.out).mono ?_); (case side1 => exact gm_at HGM.out (by repeat (first | (with_reducible first | exact HB.out | apply below_alloc | apply pw_below_drewN | apply below_drew1) | exact HB.out))); rintro e w39 ⟨rfl, hb⟩; refine ⟨_, rfl, ?_⟩; have n0_ := Aside0.mk (below_step (by repeat (first | (with_reducible first | exact HB.out | apply below_alloc | apply pw_below_drewN | apply below_drew1) | exact HB.out)) hb); clear HB; have HB := n0_; clear n0_; (try clear hb); (try clear hb2); (try clear hk); (try clear hi)) | ((with_reducible refine gate_callee (f := 30) rfl ?_); refine goesL_ (some 19) rfl rfl Tryz.func30 (by kernel_rfl) rfl #[.string t187] rfl (by (try simp only [List.map_toArray, List.map_cons, List.map_nil]); first | done | rfl | (simp only [List.length_drop, List.length_take]; rfl)) ?_; (with_reducible refine (PA.bulletinref15_ToLine.calls k t187 t190 t191 _ A4.out).mono ?_); rintro e w40 ⟨rfl, hb⟩; refine ⟨_, rfl, ?_⟩; have n0_ := Aside0.mk (below_step (by repeat (first | (with_reducible first | exact HB.out | apply below_alloc | apply pw_below_drewN | apply below_drew1) | exact HB.out)) hb); clear HB; have HB := n0_; clear n0_; (try clear hb); (try clear hb2); (try clear hk); (try clear hi)) | ((with_reducible refine gate_callee (f := 31) rfl ?_); refine goesL_ (some 24) rfl rfl Tryz.func31 (by kernel_rfl) rfl #[.string t188] rfl (by (try simp only [List.map_toArray, List.map_cons, List.map_nil]); first | done | rfl | (simp only [List.length_drop, List.length_take]; rfl)) ?_; (with_reducible refine (PC.article_FromLine.calls k t188 t192 t193 t194 _ ?side1 A5.out).mono ?_); (case side1 => exact gm_at HGM.out (by repeat (first | (with_reducible first | exact HB.out | apply below_alloc | apply pw_below_drewN | apply below_drew1) | exact HB.out))); rintro e w41 ⟨rfl, hb⟩; refine ⟨_, rfl, ?_⟩; have n0_ := Aside0.mk (below_step (by repeat (first | (with_reducible first | exact HB.out | apply below_alloc | apply pw_below_drewN | apply below_drew1) | exact HB.out)) hb); clear HB; have HB := n0_; clear n0_; (try clear hb); (try clear hb2); (try clear hk); (try clear hi)) | ((with_reducible refine gate_callee (f := 14) rfl ?_); refine goesL_ (some 28) rfl rfl Tryz.func14 (by kernel_rfl) rfl #[] rfl (by (try simp only [List.map_toArray, List.map_cons, List.map_nil]); first | done | rfl | (simp only [List.length_drop, List.length_take]; rfl)) ?_; (with_reducible refine (GV.known.calls  true _ ?side1 A6.out).mono ?_); (case side1 => exact gm_at HGM.out (by repeat (first | (with_reducible first | exact HB.out | apply below_alloc | apply pw_below_drewN | apply below_drew1) | exact HB.out))); rintro e w42 ⟨rfl, hb⟩; refine ⟨_, rfl, ?_⟩; have n0_ := Aside0.mk (below_step (by repeat (first | (with_reducible first | exact HB.out | apply below_alloc | apply pw_below_drewN | apply below_drew1) | exact HB.out)) hb); clear HB; have HB := n0_; clear n0_; (try clear hb); (try clear hb2); (try clear hk); (try clear hi)))
      go_ret
      exact ⟨by first | rfl | (simp [errW_none, errW_some] <;> rfl) | (simp [*, errW_none, errW_some] <;> rfl), by repeat (first | (with_reducible first | exact HB.out | apply below_alloc | apply pw_below_drewN | apply below_drew1) | exact HB.out)⟩
  · replace c7 := Bool.eq_false_iff.mpr c7
    subst c7
    have H1 : (some false) = some r := by rw [if_neg (show ¬ (false = true) by decide)] at H; exact H
    clear H
    have H := H1
    clear H1
    obtain rfl := Option.some.inj H
    go_enter Tryz.func9, Tryz.ntmps9
    go_wp2_with (first | ((with_reducible refine gate_callee (f := 11) rfl ?_); refine goesL_ (some 11) rfl rfl Tryz.func11 (by kernel_rfl) rfl #[.string a0, .int .i64 3000] rfl (by (try simp only [List.map_toArray, List.map_cons, List.map_nil]); first | done | rfl | (simp only [List.length_drop, List.length_take]; rfl)) ?_; (with_reducible refine (PA.bulletinlaw15_short.calls a0 3000 t187 _ A2.out).mono ?_); rintro e w43 ⟨rfl, hb⟩; refine ⟨_, rfl, ?_⟩; have n0_ := Aside0.mk (below_step (by repeat (first | (with_reducible first | exact HB.out | apply below_alloc | apply pw_below_drewN | apply below_drew1) | exact HB.out)) hb); clear HB; have HB := n0_; clear n0_; (try clear hb); (try clear hb2); (try clear hk); (try clear hi)) | ((with_reducible refine gate_callee (f := 29) rfl ?_); refine goesL_ (some 14) rfl rfl Tryz.func29 (by kernel_rfl) rfl #[.string t187] rfl (by (try simp only [List.map_toArray, List.map_cons, List.map_nil]); first | done | rfl | (simp only [List.length_drop, List.length_take]; rfl)) ?_; (with_reducible refine (PC.article_ToLine.calls t187 t188 t189 _ ?side1 A3.out).mono ?_); (case side1 => exact gm_at HGM.out (by repeat (first | (with_reducible first | exact HB.out | apply below_alloc | apply pw_below_drewN | apply below_drew1) | exact HB.out))); rintro e w44 ⟨rfl, hb⟩; refine ⟨_, rfl, ?_⟩; have n0_ := Aside0.mk (below_step (by repeat (first | (with_reducible first | exact HB.out | apply below_alloc | apply pw_below_drewN | apply below_drew1) | exact HB.out)) hb); clear HB; have HB := n0_; clear n0_; (try clear hb); (try clear hb2); (try clear hk); (try clear hi)) | ((with_reducible refine gate_callee (f := 30) rfl ?_); refine goesL_ (some 19) rfl rfl Tryz.func30 (by kernel_rfl) rfl #[.string t187] rfl (by (try simp only [List.map_toArray, List.map_cons, List.map_nil]); first | done | rfl | (simp only [List.length_drop, List.length_take]; rfl)) ?_; (with_reducible refine (PA.bulletinref15_ToLine.calls k t187 t190 t191 _ A4.out).mono ?_); rintro e w45 ⟨rfl, hb⟩; refine ⟨_, rfl, ?_⟩; have n0_ := Aside0.mk (below_step (by repeat (first | (with_reducible first | exact HB.out | apply below_alloc | apply pw_below_drewN | apply below_drew1) | exact HB.out)) hb); clear HB; have HB := n0_; clear n0_; (try clear hb); (try clear hb2); (try clear hk); (try clear hi)) | ((with_reducible refine gate_callee (f := 31) rfl ?_); refine goesL_ (some 24) rfl rfl Tryz.func31 (by kernel_rfl) rfl #[.string t188] rfl (by (try simp only [List.map_toArray, List.map_cons, List.map_nil]); first | done | rfl | (simp only [List.length_drop, List.length_take]; rfl)) ?_; (with_reducible refine (PC.article_FromLine.calls k t188 t192 t193 t194 _ ?side1 A5.out).mono ?_); (case side1 => exact gm_at HGM.out (by repeat (first | (with_reducible first | exact HB.out | apply below_alloc | apply pw_below_drewN | apply below_drew1) | exact HB.out))); rintro e w46 ⟨rfl, hb⟩; refine ⟨_, rfl, ?_⟩; have n0_ := Aside0.mk (below_step (by repeat (first | (with_reducible first | exact HB.out | apply below_alloc | apply pw_below_drewN | apply below_drew1) | exact HB.out)) hb); clear HB; have HB := n0_; clear n0_; (try clear hb); (try clear hb2); (try clear hk); (try clear hi)) | ((with_reducible refine gate_callee (f := 14) rfl ?_); refine goesL_ (some 28) rfl rfl Tryz.func14 (by kernel_rfl) rfl #[] rfl (by (try simp only [List.map_toArray, List.map_cons, List.map_nil]); first | done | rfl | (simp only [List.length_drop, List.length_take]; rfl)) ?_; (with_reducible refine (GV.known.calls  false _ ?side1 A6.out).mono ?_); (case side1 => exact gm_at HGM.out (by repeat (first | (with_reducible first | exact HB.out | apply below_alloc | apply pw_below_drewN | apply below_drew1) | exact HB.out))); rintro e w47 ⟨rfl, hb⟩; refine ⟨_, rfl, ?_⟩; have n0_ := Aside0.mk (below_step (by repeat (first | (with_reducible first | exact HB.out | apply below_alloc | apply pw_below_drewN | apply below_drew1) | exact HB.out)) hb); clear HB; have HB := n0_; clear n0_; (try clear hb); (try clear hb2); (try clear hk); (try clear hi)))
    go_ret
    exact ⟨by first | rfl | (simp [errW_none, errW_some] <;> rfl) | (simp [*, errW_none, errW_some] <;> rfl), by repeat (first | (with_reducible first | exact HB.out | apply below_alloc | apply pw_below_drewN | apply below_drew1) | exact HB.out)⟩

/-- THE ONE PURE STATEMENT of bulletinlaw15_ArticleToLine: yours. -/
def bulletinlaw15_ArticleToLine.Pure : Prop := ∀ (a0 : ByteArray), a0.size ≤ 140737488351232 → ∃ k, bulletinlaw15_ArticleToLine.f k a0 = some true
theorem bulletinlaw15_ArticleToLine.walk (P : bulletinlaw15_ArticleToLine.Pure) (a0 : ByteArray) (w : World) (hgm : Gm w) (w0 : a0.size ≤ 140737488351232) :
    Calls Tryz.prog 9 #[.string a0] w fun e w' => e = .returned (.bool true) ∧ Below w.heap.size w w' := by
  obtain ⟨k, h⟩ := P a0 w0
  refine (bulletinlaw15_ArticleToLine.calls k a0 true w hgm h).mono ?_
  rintro e w' ⟨rfl, hd⟩
  exact ⟨rfl, hd⟩

/-! ### bulletinlaw15_ArticleFromLine: function 10 -/
end Go.Proofs.YtfeciafdioepiaaGreatDoor.PL
set_option linter.unusedVariables false
set_option linter.unusedSimpArgs false
/- The reference's ValidName as a function on lists. -/
namespace Go.Proofs.YtfeciafdioepiaaGreatDoor
open Go.RowKit Go.Proofs Go.Proofs.YtfeciafdioepiaaGreatDoorW.PrintWords Go.Proofs.YtfeciafdioepiaaGreatDoor.PA

theorem mn_nat (a b : Nat) : mn (a : Int) (b : Int) = ((min a b : Nat) : Int) := by unfold mn; split <;> omega
end Go.Proofs.YtfeciafdioepiaaGreatDoor

/- Plain: what the printed functions of the reference compute, for all large numbers of rounds: Words, Printable, Squeeze, Check, Fold. -/
namespace Go.Proofs.YtfeciafdioepiaaGreatDoor
open Go.RowKit Go.Proofs Go.Proofs.YtfeciafdioepiaaGreatDoorW.PrintWords Go.Proofs.YtfeciafdioepiaaGreatDoor.PA

/-- From some number of rounds on. -/
def Ev {α : Type} (f : Nat → Option α) (r : α) : Prop := ∃ K, ∀ k, K ≤ k → f k = some r
section
variable {α β : Type}
theorem Ev.const {o : Option α} {r : α} (h : o = some r) : Ev (fun _ => o) r := ⟨0, fun _ _ => h⟩
theorem Ev.bind {f : Nat → Option α} {g : Nat → α → Option β} {a : α} {r : β} (h : Ev f a) (k : Ev (fun n => g n a) r) : Ev (fun n => (f n).bind (g n)) r := by
  obtain ⟨K, h⟩ := h
  obtain ⟨K', k⟩ := k
  refine ⟨max K K', fun n hn => ?_⟩
  show (f n).bind (g n) = some r
  rw [h n (by omega), Option.bind_some]
  exact k n (by omega)
theorem Ev.ite_pos {c : Prop} [Decidable c] {f g : Nat → Option α} {r : α} (h : c) (k : Ev f r) : Ev (fun n => if c then f n else g n) r := by
  simpa [h] using k
theorem Ev.ite_neg {c : Prop} [Decidable c] {f g : Nat → Option α} {r : α} (h : ¬ c) (k : Ev g r) : Ev (fun n => if c then f n else g n) r := by
  simpa [h] using k
theorem Ev.next {f : Nat → Option α} {r : α} (h : Ev (fun n => f (n + 1)) r) : Ev f r := by
  obtain ⟨K, h⟩ := h
  refine ⟨K + 1, fun n hn => ?_⟩
  obtain ⟨m, rfl⟩ : ∃ m, n = m + 1 := ⟨n - 1, by omega⟩
  exact h m (by omega)
theorem Ev.same {f g : Nat → Option α} {r : α} (h : Ev g r) (e : ∀ n, f n = g n) : Ev f r := by
  obtain ⟨K, h⟩ := h
  exact ⟨K, fun n hn => (e n).trans (h n hn)⟩
theorem Ev.rpos {c : Prop} [Decidable c] {f : Nat → Option α} {a b : α} (h : c) (k : Ev f a) : Ev f (if c then a else b) := by rw [if_pos h]; exact k
theorem Ev.rneg {c : Prop} [Decidable c] {f : Nat → Option α} {a b : α} (h : ¬ c) (k : Ev f b) : Ev f (if c then a else b) := by rw [if_neg h]; exact k
theorem Ev.at_ {f : Nat → Option α} {r : α} (h : Ev f r) : ∃ k, f k = some r := by
  obtain ⟨K, h⟩ := h
  exact ⟨K, h K (Nat.le_refl _)⟩
end

theorem wrap_nat (i : Nat) (h : i < 100000000000000) : wrap64 ((i : Int) + 1) = ((i + 1 : Nat) : Int) := by unfold wrap64; omega

/-! ### Words -/
/-! ### Printable -/
/-! ### Squeeze -/
end Go.Proofs.YtfeciafdioepiaaGreatDoor

/- Plain: Check and Fold of the program. -/
namespace Go.Proofs.YtfeciafdioepiaaGreatDoor
open Go.RowKit Go.Proofs Go.Proofs.YtfeciafdioepiaaGreatDoorW.PrintWords Go.Proofs.YtfeciafdioepiaaGreatDoor.PA

end Go.Proofs.YtfeciafdioepiaaGreatDoor
set_option linter.unusedVariables false
set_option linter.unusedSimpArgs false
namespace Go.Proofs.YtfeciafdioepiaaGreatDoor
open Go.RowKit Go.Proofs Go.Proofs.YtfeciafdioepiaaGreatDoorW.PrintWords Go.Proofs.YtfeciafdioepiaaGreatDoorW.PrintMore Go.Proofs.YtfeciafdioepiaaGreatDoor.PA

/-- A text that is cut. -/
theorem shortF (l : List UInt8) (n : Nat) (hn : n ≤ 1000000) : bulletinlaw15_short.f (mkS l) (n : Int) = some (mkS (l.take n)) := by
  unfold bulletinlaw15_short.f
  rw [mkS_size, mn_nat l.length n, if_pos (by omega), if_pos (by omega), Int.toNat_natCast, extract_mk, mkS_toList, List.drop_zero, Nat.sub_zero]
  congr 2
  rw [Nat.min_comm, ← List.take_take, List.take_length]
end Go.Proofs.YtfeciafdioepiaaGreatDoor
set_option linter.unusedVariables false
set_option linter.unusedSimpArgs false
namespace Go.Proofs.YtfeciafdioepiaaGreatDoor
open Go.RowKit Go.Proofs Go.Proofs.YtfeciafdioepiaaGreatDoorW.PrintWords Go.Proofs.YtfeciafdioepiaaGreatDoorW.PrintMore Go.Proofs.YtfeciafdioepiaaGreatDoor.PA

/-! ### replacing -/
theorem replaceAll_miss {s old new : List UInt8} (h : Lib.index s old = -1) : Lib.replaceAll s old new = s := by
  unfold Lib.replaceAll Lib.replace
  split
  · rfl
  · have : Lib.replaceNum s old (-1) = 0 := by unfold Lib.replaceNum; rw [if_pos (.inl (by decide)), Lib.count_miss h]
    rw [this]; rfl
theorem replaceAll_hit {s old new : List UInt8} {i : Nat} (h0 : old ≠ []) (hne : old ≠ new) (h : Lib.index s old = i) : Lib.replaceAll s old new = s.take i ++ new ++ Lib.replaceAll (s.drop (i + old.length)) old new := by
  have hne' : (old == new) = false := by simpa using hne
  have hn : ∀ t : List UInt8, Lib.replaceAll t old new = Lib.replaceK old new (Lib.count t old) t := by
    intro t
    unfold Lib.replaceAll Lib.replace
    rw [hne']
    have : Lib.replaceNum t old (-1) = Lib.count t old := by unfold Lib.replaceNum; rw [if_pos (.inl (by decide))]
    rw [this]; rfl
  rw [hn, hn, Lib.count_hit h0 h, Nat.add_comm 1, Lib.replaceK_hit _ _ _ _ _ h]
/-- Every line feed becomes two bytes. -/
def wire1 (c : UInt8) : List UInt8 := if c = 10 then [13, 10] else [c]
def wireL (l : List UInt8) : List UInt8 := l.flatMap wire1
theorem wireL_plain (l : List UInt8) (h : ∀ c ∈ l, c ≠ 10) : wireL l = l := by
  induction l with
  | nil => rfl
  | cons c l ih =>
    have hc := h c (by simp)
    have := ih (fun d hd => h d (by simp [hd]))
    unfold wireL at this ⊢
    rw [List.flatMap_cons, this]
    unfold wire1
    rw [if_neg hc]; rfl
theorem wireL_app (a b : List UInt8) : wireL (a ++ b) = wireL a ++ wireL b := by unfold wireL; rw [List.flatMap_append]
theorem spanL_take (p : UInt8 → Bool) (l : List UInt8) : ∀ c ∈ l.take (spanL p l), p c = true := by
  induction l with
  | nil => intro c hc; simp at hc
  | cons d l ih =>
    intro c hc
    by_cases hd : p d = true
    · have e : spanL p (d :: l) = spanL p l + 1 := by simp [spanL, hd]
      rw [e, List.take_succ_cons] at hc
      rcases List.mem_cons.1 hc with rfl | hc
      · exact hd
      · exact ih c hc
    · have e : spanL p (d :: l) = 0 := by simp [spanL, hd]
      rw [e] at hc; simp at hc
theorem spanL_stop (p : UInt8 → Bool) (l : List UInt8) (h : spanL p l < l.length) : p l[spanL p l] = false := by
  induction l with
  | nil => simp at h
  | cons d l ih =>
    by_cases hd : p d = true
    · have e : spanL p (d :: l) = spanL p l + 1 := by simp [spanL, hd]
      simp only [e, List.getElem_cons_succ]
      exact ih (by rw [e] at h; simpa using h)
    · have e : spanL p (d :: l) = 0 := by simp [spanL, hd]
      simp only [e, List.getElem_cons_zero]
      simpa using hd
theorem replace_nl : ∀ (n : Nat) (l : List UInt8), l.length ≤ n → Lib.replaceAll l [10] [13, 10] = wireL l := by
  intro n
  induction n with
  | zero =>
    intro l hl
    have : l = [] := List.length_eq_zero_iff.1 (by omega)
    subst this
    rfl
  | succ n ih =>
    intro l hl
    have hix : Lib.index l [10] = if lineN l = l.length then -1 else (lineN l : Int) := by
      rw [Lib.index_one]; exact indexByte_span 10 l
    have hle := lineN_le l
    have hpl : ∀ c ∈ l.take (lineN l), c ≠ 10 := by
      intro c hc h
      have := spanL_take notNl l c hc
      rw [h] at this
      exact absurd this (by decide)
    by_cases h : lineN l = l.length
    · rw [if_pos h] at hix
      rw [replaceAll_miss hix, wireL_plain]
      rw [h, List.take_length] at hpl
      exact hpl
    · rw [if_neg h] at hix
      have hlt : lineN l < l.length := by omega
      rw [replaceAll_hit (by simp) (by decide) hix]
      have h10 : l[lineN l] = 10 := by
        have := spanL_stop notNl l hlt
        have h' : notNl l[lineN l] = false := this
        unfold notNl at h'
        simpa using h'
      have e : l = l.take (lineN l) ++ 10 :: l.drop (lineN l + 1) := by
        conv => lhs; rw [← List.take_append_drop (lineN l) l, List.drop_eq_getElem_cons hlt, h10]
      have e2 : ([10] : List UInt8).length = 1 := rfl
      rw [e2, ih _ (by rw [List.length_drop]; omega)]
      conv => rhs; rw [e, wireL_app, wireL_plain _ hpl]
      have e3 : wireL (10 :: l.drop (lineN l + 1)) = [13, 10] ++ wireL (l.drop (lineN l + 1)) := rfl
      rw [e3, List.append_assoc]
/-- Texts in which nothing but CR LF ends a line. -/
inductive Wire : List UInt8 → Prop
  | nil : Wire []
  | feed {r : List UInt8} (h : Wire r) : Wire (13 :: 10 :: r)
  | byte {c : UInt8} {r : List UInt8} (h1 : c ≠ 13) (h2 : c ≠ 10) (h : Wire r) : Wire (c :: r)
def unwire (l : List UInt8) : List UInt8 := l.filter (fun c => c != 13)
theorem wire_of (l : List UInt8) (h : ∀ c ∈ l, c ≠ 13) : Wire (wireL l) ∧ unwire (wireL l) = l := by
  induction l with
  | nil => exact ⟨.nil, rfl⟩
  | cons c l ih =>
    obtain ⟨h1, h2⟩ := ih (fun d hd => h d (by simp [hd]))
    have hc := h c (by simp)
    have e : wireL (c :: l) = wire1 c ++ wireL l := rfl
    rw [e]
    unfold wire1
    by_cases h10 : c = 10
    · subst h10
      rw [if_pos rfl]
      refine ⟨.feed h1, ?_⟩
      have : unwire ([13, 10] ++ wireL l) = 10 :: unwire (wireL l) := by simp [unwire]
      rw [this, h2]
    · rw [if_neg h10]
      refine ⟨.byte hc h10 h1, ?_⟩
      have : unwire ([c] ++ wireL l) = c :: unwire (wireL l) := by simp [unwire, hc]
      rw [this, h2]
theorem index_cons_ne (c : UInt8) (l : List UInt8) (h : c ≠ 13) : Lib.index (c :: l) [13, 10] = if Lib.index l [13, 10] = -1 then -1 else Lib.index l [13, 10] + 1 := by
  have e : ([13, 10] : List UInt8).isPrefixOf (c :: l) = false := by
    simp [List.isPrefixOf]
    intro h'; exact absurd h'.symm h
  conv => lhs; unfold Lib.index
  rw [e]
  simp
theorem replace_crlf {l : List UInt8} (h : Wire l) : Lib.replaceAll l [13, 10] [10] = unwire l := by
  induction h with
  | nil => rfl
  | feed h ih =>
    rename_i r
    have hix : Lib.index (13 :: 10 :: r) [13, 10] = ((0 : Nat) : Int) := by
      unfold Lib.index
      rw [if_pos (by simp [List.isPrefixOf])]; rfl
    rw [replaceAll_hit (by simp) (by decide) hix]
    have e2 : ([13, 10] : List UInt8).length = 2 := rfl
    rw [e2]
    have e3 : (13 :: 10 :: r).drop (0 + 2) = r := rfl
    rw [e3, ih]
    simp [unwire]
  | byte h1 h2 h ih =>
    rename_i c r
    have e : unwire (c :: r) = c :: unwire r := by simp [unwire, h1]
    rw [e, ← ih]
    have hge := Lib.index_ge r [13, 10]
    have hix := index_cons_ne c r h1
    by_cases hm : Lib.index r [13, 10] = -1
    · rw [if_pos hm] at hix
      rw [replaceAll_miss hix, replaceAll_miss hm]
    · rw [if_neg hm] at hix
      obtain ⟨i, hi⟩ : ∃ i : Nat, Lib.index r [13, 10] = i := ⟨(Lib.index r [13, 10]).toNat, by omega⟩
      rw [hi] at hix
      rw [replaceAll_hit (i := i + 1) (by simp) (by decide) hix, replaceAll_hit (i := i) (by simp) (by decide) hi]
      have e2 : ([13, 10] : List UInt8).length = 2 := rfl
      rw [e2, show i + 1 + 2 = (i + 2) + 1 by omega, List.drop_succ_cons, List.take_succ_cons]
      rfl
/-- The first offset at which a text breaks the rule; p: is a CR ahead. -/
def wireE (p : Bool) (i : Nat) : List UInt8 → Option Nat
  | [] => none
  | c :: r => if c = 13 then (if r.head? = some 10 then wireE true (i + 1) r else some i) else if c = 10 then (if p = true then wireE false (i + 1) r else some i) else wireE false (i + 1) r
theorem wireE_none : ∀ (n : Nat) (l : List UInt8) (i : Nat), l.length ≤ n → wireE false i l = none → Wire l := by
  intro n
  induction n with
  | zero =>
    intro l i hl _
    have : l = [] := List.length_eq_zero_iff.1 (by omega)
    subst this
    exact .nil
  | succ n ih =>
    intro l i hl h
    cases l with
    | nil => exact .nil
    | cons c r =>
      simp only [wireE] at h
      by_cases h13 : c = 13
      · rw [if_pos h13] at h
        subst h13
        split at h
        · rename_i hh
          cases r with
          | nil => simp at hh
          | cons d r =>
            simp at hh
            subst hh
            simp only [wireE] at h
            rw [if_neg (by decide), if_pos (by decide), if_pos (by decide)] at h
            exact .feed (ih r _ (by simp at hl; omega) h)
        · cases h
      · rw [if_neg h13] at h
        by_cases h10 : c = 10
        · rw [if_pos h10] at h; simp at h
        · rw [if_neg h10] at h
          exact .byte h13 h10 (ih r _ (by simp at hl; omega) h)
theorem wireE_wire {l : List UInt8} (h : Wire l) : ∀ i, wireE false i l = none := by
  induction h with
  | nil => intro i; rfl
  | feed h ih =>
    intro i
    rename_i r
    simp [wireE, ih]
  | byte h1 h2 h ih =>
    intro i
    rename_i c r
    simp [wireE, h1, h2, ih]
/-- What FromLine answers. -/
def fromL (l : List UInt8) : ByteArray × Int × Int :=
  if 131072 < l.length then (⟨#[]⟩, 131072, 5)
  else match wireE false 0 l with
    | some p => (⟨#[]⟩, (p : Int), 3)
    | none => if l ≠ [] ∧ l.getLast? ≠ some 10 then (⟨#[]⟩, (l.length : Int), 4) else if 65536 < (unwire l).length then (⟨#[]⟩, 0, 5) else (mkS (unwire l), 0, 0)
/-- What ToLine answers. -/
def toL (l : List UInt8) : ByteArray × Int :=
  if 65536 < l.length then (⟨#[]⟩, 5) else if (13 : UInt8) ∈ l then (⟨#[]⟩, 6) else if l ≠ [] ∧ l.getLast? ≠ some 10 then (⟨#[]⟩, 4) else (mkS (wireL l), 0)

/-! ### the program -/
theorem suffixF (l p : List UInt8) (h : l.length ≤ 900000) (hp : p.length ≤ 1000) : strings_HasSuffix.f (mkS l) (mkS p) = some (decide (p.length ≤ l.length ∧ l.drop (l.length - p.length) = p)) := by
  unfold strings_HasSuffix.f stringslite_HasSuffix.f
  simp only [mkS_size]
  by_cases h1 : p.length ≤ l.length
  · have hw : wrap64 ((l.length : Int) - (p.length : Int)) = ((l.length - p.length : Nat) : Int) := by
      rw [show ((l.length : Int) - (p.length : Int)) = ((l.length - p.length : Nat) : Int) by omega, wrap64_small (by omega) (by omega)]
    rw [hw, if_pos (by omega), if_pos (by omega), if_pos (by omega), Int.toNat_natCast, extract_mk, mkS_toList, toList_mk, toList_mk, List.take_of_length_le (by rw [List.length_drop]; omega)]
    simp only [Option.bind_some]
    congr 1
    by_cases h2 : l.drop (l.length - p.length) = p
    · simp [h1, h2]
    · simp [h2]
  · rw [if_neg (by omega)]
    simp [h1]
theorem prefixF (l p : List UInt8) (h : l.length ≤ 900000) (hp : p.length ≤ 1000) : strings_HasPrefix.f (mkS l) (mkS p) = some (decide (p.length ≤ l.length ∧ l.take p.length = p)) := by
  unfold strings_HasPrefix.f stringslite_HasPrefix.f
  simp only [mkS_size]
  by_cases h1 : p.length ≤ l.length
  · rw [if_pos (by omega), if_pos (by omega), if_pos (by omega), Int.toNat_natCast, extract_mk, mkS_toList, toList_mk, toList_mk, List.drop_zero, Nat.sub_zero]
    simp only [Option.bind_some]
    congr 1
    by_cases h2 : l.take p.length = p
    · simp [h1, h2]
    · simp [h2]
  · rw [if_neg (by omega)]
    simp [h1]
theorem last_ten (l : List UInt8) (h0 : l ≠ []) : (1 ≤ l.length ∧ l.drop (l.length - 1) = [10]) ↔ l.getLast? = some 10 := by
  obtain ⟨a, c, rfl⟩ : ∃ a c, l = a ++ [c] := ⟨l.dropLast, l.getLast h0, (List.dropLast_concat_getLast h0).symm⟩
  simp
theorem hasCr (l : List UInt8) : (0 ≤ Lib.indexByte l 13) ↔ (13 : UInt8) ∈ l := by
  have h := indexByte_span 13 l
  have hle := spanL_le (fun b => !(b == 13)) l
  by_cases hs : spanL (fun b => !(b == 13)) l = l.length
  · rw [if_pos hs] at h
    rw [h]
    constructor
    · intro h'; omega
    · intro hm
      have := spanL_take (fun b => !(b == 13)) l 13 (by rw [hs, List.take_length]; exact hm)
      simp at this
  · rw [if_neg hs] at h
    rw [h]
    constructor
    · intro _
      have hlt : spanL (fun b => !(b == 13)) l < l.length := by omega
      have := spanL_stop (fun b => !(b == 13)) l hlt
      have h13 : l[spanL (fun b => !(b == 13)) l] = 13 := by simpa using this
      rw [← h13]; exact List.getElem_mem hlt
    · intro _; omega
theorem replF (l old new : List UInt8) (h : l.length ≤ 900000) (h1 : 1 ≤ old.length) (h2 : new.length ≤ 1000) : GV.ReplaceAll.f (mkS l) (mkS old) (mkS new) = some (mkS (Lib.replaceAll l old new)) := by
  unfold GV.ReplaceAll.f
  rw [if_pos ⟨by rw [mkS_size]; omega, by rw [mkS_size]; omega, by rw [mkS_size]; omega⟩, mkS_toList, mkS_toList, mkS_toList]
theorem toLineF (l : List UInt8) (hl : l.length ≤ 900000) : PC.article_ToLine.f (mkS l) = some (toL l) := by
  unfold PC.article_ToLine.f toL
  simp only [mkS_size]
  have e13 : (⟨#[13]⟩ : ByteArray) = mkS [13] := rfl
  have e10 : (⟨#[10]⟩ : ByteArray) = mkS [10] := rfl
  have e1310 : (⟨#[13, 10]⟩ : ByteArray) = mkS [13, 10] := rfl
  by_cases h6 : 65536 < l.length
  · rw [if_pos (by omega), if_pos h6]
  · rw [if_neg (by omega), if_neg h6]
    unfold GV.Contains.f
    rw [if_pos rfl, mkS_toList]
    simp only [Option.bind_some]
    by_cases hc : (13 : UInt8) ∈ l
    · rw [if_pos (by simpa using (hasCr l).2 hc), if_pos hc]
    · rw [if_neg (by simpa using fun h => hc ((hasCr l).1 h)), if_neg hc, toList_mk, e10, e1310]
      rw [replF l [10] [13, 10] hl (by simp) (by simp), replace_nl _ l (Nat.le_refl _)]
      by_cases h0 : l = []
      · rw [if_pos h0, if_neg (by simp [h0])]; rfl
      · rw [if_neg h0, suffixF l [10] hl (by simp)]
        simp only [Option.bind_some]
        have hlt := last_ten l h0
        have e1 : ([10] : List UInt8).length = 1 := rfl
        rw [e1]
        by_cases hx : l.getLast? = some 10
        · rw [if_pos (decide_eq_true (hlt.2 hx)), if_neg (by simp [hx])]
        · rw [if_neg (by rw [decide_eq_true_iff]; exact fun h => hx (hlt.1 h)), if_pos ⟨h0, hx⟩]
theorem ahead_last (l : List UInt8) (i : Nat) (hi : i < l.length) : (2 ≤ (l.take (i + 1)).length ∧ (l.take (i + 1)).drop ((l.take (i + 1)).length - 2) = [13, 10]) ↔ (0 < i ∧ l[i - 1]? = some 13 ∧ l[i] = 10) := by
  have hlen : (l.take (i + 1)).length = i + 1 := by rw [List.length_take]; omega
  rw [hlen]
  constructor
  · rintro ⟨h1, h2⟩
    have h0 : 0 < i := by omega
    have ha : (l.take (i + 1)).drop (i + 1 - 2) = [l[i - 1], l[i]] := by
      have e1 : (l.take (i + 1)) = l.take (i - 1) ++ [l[i - 1], l[i]] := by
        rw [List.take_succ_eq_append_getElem hi]
        have := List.take_succ_eq_append_getElem (l := l) (i := i - 1) (by omega)
        rw [show i - 1 + 1 = i by omega] at this
        rw [this, List.append_assoc]; rfl
      rw [e1, List.drop_append_of_le_length (by rw [List.length_take]; omega), List.drop_eq_nil_of_le (by rw [List.length_take]; omega)]
      rfl
    rw [ha] at h2
    injection h2 with h2 h3
    injection h3 with h3
    exact ⟨h0, by rw [List.getElem?_eq_getElem (by omega), h2], h3⟩
  · rintro ⟨h0, h1, h2⟩
    refine ⟨by omega, ?_⟩
    have e1 : (l.take (i + 1)) = l.take (i - 1) ++ [l[i - 1], l[i]] := by
      rw [List.take_succ_eq_append_getElem hi]
      have := List.take_succ_eq_append_getElem (l := l) (i := i - 1) (by omega)
      rw [show i - 1 + 1 = i by omega] at this
      rw [this, List.append_assoc]; rfl
    rw [List.getElem?_eq_getElem (by omega)] at h1
    injection h1 with h1
    rw [e1, List.drop_append_of_le_length (by rw [List.length_take]; omega), List.drop_eq_nil_of_le (by rw [List.length_take]; omega), h1, h2]
    rfl
theorem byte13 (c : UInt8) : ((c.toNat : Int) = 13) ↔ c = 13 := toNat_int c 13 (by omega)
theorem byteTen (c : UInt8) : ((c.toNat : Int) = 10) ↔ c = 10 := toNat_int c 10 (by omega)
def prev13 (l : List UInt8) (i : Nat) : Bool := decide (0 < i ∧ l[i - 1]? = some 13)
theorem prev13_succ (l : List UInt8) (i : Nat) (h : i < l.length) : prev13 l (i + 1) = decide (l[i] = 13) := by
  unfold prev13
  rw [Nat.add_sub_cancel, List.getElem?_eq_getElem h]
  simp
theorem wireE_step (l : List UInt8) (i : Nat) (h : i < l.length) : wireE (prev13 l i) i (l.drop i) = if l[i] = 13 then (if l[i + 1]? = some 10 then wireE (prev13 l (i + 1)) (i + 1) (l.drop (i + 1)) else some i) else if l[i] = 10 then (if prev13 l i = true then wireE (prev13 l (i + 1)) (i + 1) (l.drop (i + 1)) else some i) else wireE (prev13 l (i + 1)) (i + 1) (l.drop (i + 1)) := by
  rw [List.drop_eq_getElem_cons h, prev13_succ l i h]
  simp only [wireE]
  have e : (l.drop (i + 1)).head? = l[i + 1]? := by rw [List.head?_drop]
  rw [e]
  by_cases h13 : l[i] = 13
  · rw [if_pos h13, if_pos h13]; simp [h13]
  · rw [if_neg h13, if_neg h13]; simp [h13]
/-- What FromLine answers behind its rounds. -/
def fromE (l : List UInt8) : ByteArray × Int × Int := if l ≠ [] ∧ l.getLast? ≠ some 10 then (⟨#[]⟩, (l.length : Int), 4) else if 65536 < (unwire l).length then (⟨#[]⟩, 0, 5) else (mkS (unwire l), 0, 0)
theorem fromLine_end (l : List UInt8) (hl : l.length ≤ 900000) (hW : Wire l) (b : Bool) (hb : b = decide (l ≠ [] ∧ l.getLast? ≠ some 10)) : Ev (fun k => PC.article_FromLine.j2 k (mkS l) b) (fromE l) := by
  have e10 : (⟨#[10]⟩ : ByteArray) = mkS [10] := rfl
  have e1310 : (⟨#[13, 10]⟩ : ByteArray) = mkS [13, 10] := rfl
  refine Ev.next ?_
  simp only [PC.article_FromLine.j2]
  unfold fromE
  by_cases h : l ≠ [] ∧ l.getLast? ≠ some 10
  · rw [if_pos h]
    refine Ev.ite_pos (by rw [hb]; exact decide_eq_true h) (Ev.const ?_)
    rw [mkS_size]
  · rw [if_neg h]
    refine Ev.ite_neg (by rw [hb]; simpa using h) ?_
    rw [e10, e1310, replF l [13, 10] [10] hl (by simp) (by simp), replace_crlf hW]
    simp only [Option.bind_some, mkS_size]
    by_cases h6 : 65536 < (unwire l).length
    · rw [if_pos h6]; exact Ev.ite_pos (by omega) (Ev.const rfl)
    · rw [if_neg h6]; exact Ev.ite_neg (by omega) (Ev.const rfl)
theorem fromLine_loop (l : List UInt8) (hl : l.length ≤ 900000) : ∀ d i : Nat, l.length - i = d → i ≤ l.length → (wireE (prev13 l i) i (l.drop i) = none → Wire l) →
    Ev (fun k => PC.article_FromLine.l0 k (mkS l) (l.length : Int) (i : Int)) (match wireE (prev13 l i) i (l.drop i) with | some p => (⟨#[]⟩, (p : Int), 3) | none => fromE l) := by
  have e10 : (⟨#[10]⟩ : ByteArray) = mkS [10] := rfl
  have e1310 : (⟨#[13, 10]⟩ : ByteArray) = mkS [13, 10] := rfl
  intro d
  induction d with
  | zero =>
    intro i hd hi hW
    have h0 : l.drop i = [] := List.drop_eq_nil_of_le (by omega)
    rw [h0] at hW ⊢
    have hW' := hW rfl
    refine Ev.next ?_
    simp only [PC.article_FromLine.l0]
    refine Ev.ite_neg (by omega) ?_
    rw [toList_mk]
    show Ev _ (fromE l)
    by_cases hn : l = []
    · exact Ev.ite_pos hn (fromLine_end l hl hW' false (by simp [hn]))
    · refine Ev.ite_neg hn ?_
      rw [e10, suffixF l [10] hl (by simp)]
      simp only [Option.bind_some]
      refine fromLine_end l hl hW' _ ?_
      have hlt := last_ten l hn
      have e1 : ([10] : List UInt8).length = 1 := rfl
      rw [e1]
      by_cases hx : l.getLast? = some 10
      · rw [decide_eq_true (hlt.2 hx)]; simp [hx]
      · rw [decide_eq_false (fun h => hx (hlt.1 h))]; simp [hx, hn]
  | succ d ih =>
    intro i hd hi hW
    have hlt : i < l.length := by omega
    rw [wireE_step l i hlt] at hW ⊢
    have hnext := ih (i + 1) (by omega) (by omega)
    have ext1 : (mkS l).extract ((i : Int)).toNat (mkS l).size = mkS (l.drop i) := by
      rw [Int.toNat_natCast, extract_mk, mkS_toList, mkS_size, List.take_of_length_le]; rw [List.length_drop]; omega
    refine Ev.next ?_
    simp only [PC.article_FromLine.l0]
    rw [bt_mk l i hlt, ext1]
    refine Ev.ite_pos (by omega) (Ev.ite_pos (by omega) (Ev.ite_pos (by rw [mkS_size]; omega) ?_))
    have jb : ∀ R : ByteArray × Int × Int, R = (⟨#[]⟩, (i : Int), 3) → Ev (fun k => PC.article_FromLine.j1 k (mkS l) (i : Int) (l.length : Int) (i : Int) true) R := by
      intro R hR
      refine Ev.next ?_
      simp only [PC.article_FromLine.j1]
      exact Ev.ite_pos (by simp) (Ev.const (by rw [hR]))
    by_cases h13 : l[i] = 13
    · rw [if_pos h13] at hW ⊢
      refine Ev.ite_pos ((byte13 _).2 h13) (Ev.ite_pos (by rw [mkS_size]; omega) ?_)
      rw [e1310, prefixF (l.drop i) [13, 10] (by rw [List.length_drop]; omega) (by simp)]
      simp only [Option.bind_some]
      have e2 : ([13, 10] : List UInt8).length = 2 := rfl
      rw [e2]
      have hiff : (2 ≤ (l.drop i).length ∧ (l.drop i).take 2 = [13, 10]) ↔ l[i + 1]? = some 10 := by
        rw [List.drop_eq_getElem_cons hlt, h13]
        cases hdr : l.drop (i + 1) with
        | nil =>
          have : l[i + 1]? = none := by rw [← List.head?_drop, hdr]; rfl
          rw [this]; simp
        | cons x r =>
          have : l[i + 1]? = some x := by rw [← List.head?_drop, hdr]; rfl
          rw [this]; simp
      by_cases h10 : l[i + 1]? = some 10
      · rw [if_pos h10] at hW ⊢
        rw [decide_eq_true (hiff.2 h10)]
        refine Ev.next ?_
        simp only [PC.article_FromLine.j1]
        refine Ev.ite_neg (by simp) (Ev.ite_pos (by omega) (Ev.ite_pos (by rw [mkS_size]; omega) ?_))
        rw [bt_mk l i hlt, wrap_nat i (by omega)]
        refine Ev.ite_neg (fun h => ?_) (hnext hW)
        have := (byteTen _).1 h
        rw [h13] at this
        exact absurd this (by decide)
      · rw [if_neg h10]
        rw [decide_eq_false (fun h => h10 (hiff.1 h))]
        exact jb _ rfl
    · rw [if_neg h13] at hW ⊢
      refine Ev.ite_neg (fun h => h13 ((byte13 _).1 h)) ?_
      refine Ev.next ?_
      simp only [PC.article_FromLine.j1]
      refine Ev.ite_neg (by simp) (Ev.ite_pos (by omega) (Ev.ite_pos (by rw [mkS_size]; omega) ?_))
      rw [bt_mk l i hlt, wrap_nat i (by omega)]
      by_cases h10 : l[i] = 10
      · rw [if_pos h10] at hW ⊢
        refine Ev.ite_pos ((byteTen _).2 h10) (Ev.ite_pos (by omega) (Ev.ite_pos (by rw [mkS_size]; omega) ?_))
        have ext2 : (mkS l).extract 0 (((i + 1 : Nat) : Int)).toNat = mkS (l.take (i + 1)) := by
          rw [Int.toNat_natCast, extract_mk, mkS_toList]; rfl
        rw [ext2, e1310, suffixF (l.take (i + 1)) [13, 10] (by rw [List.length_take]; omega) (by simp)]
        simp only [Option.bind_some]
        have e2 : ([13, 10] : List UInt8).length = 2 := rfl
        rw [e2]
        have hiff := ahead_last l i hlt
        by_cases hp : prev13 l i = true
        · rw [if_pos hp] at hW ⊢
          have hp' : 0 < i ∧ l[i - 1]? = some 13 := by unfold prev13 at hp; simpa using hp
          exact Ev.ite_pos (decide_eq_true (hiff.2 ⟨hp'.1, hp'.2, h10⟩)) (hnext hW)
        · rw [if_neg hp]
          refine Ev.ite_neg (fun h => hp ?_) (Ev.const rfl)
          have := hiff.1 (of_decide_eq_true h)
          unfold prev13
          exact decide_eq_true ⟨this.1, this.2.1⟩
      · rw [if_neg h10] at hW ⊢
        exact Ev.ite_neg (fun h => h10 ((byteTen _).1 h)) (hnext hW)
theorem fromLineF (l : List UInt8) (hl : l.length ≤ 900000) : Ev (fun k => PC.article_FromLine.f k (mkS l)) (fromL l) := by
  unfold PC.article_FromLine.f fromL
  rw [mkS_size]
  by_cases h : 131072 < l.length
  · rw [if_pos h]; exact Ev.ite_pos (by omega) (Ev.const rfl)
  · rw [if_neg h]
    refine Ev.ite_neg (by omega) ?_
    have hp : prev13 l 0 = false := by unfold prev13; simp
    have := fromLine_loop l hl _ 0 rfl (by omega) (by rw [hp, List.drop_zero]; exact wireE_none _ l 0 (Nat.le_refl _))
    rw [hp, List.drop_zero] at this
    exact this
end Go.Proofs.YtfeciafdioepiaaGreatDoor
set_option linter.unusedVariables false
set_option linter.unusedSimpArgs false
namespace Go.Proofs.YtfeciafdioepiaaGreatDoor
open Go.RowKit Go.Proofs Go.Proofs.YtfeciafdioepiaaGreatDoorW.PrintWords Go.Proofs.YtfeciafdioepiaaGreatDoorW.PrintMore Go.Proofs.YtfeciafdioepiaaGreatDoor.PA

def numsL (l : List UInt8) : List Int := l.map fun c => (c.toNat : Int)
theorem strOf_nums (l : List UInt8) : strOfNums (numsL l) = mkS l := by
  unfold strOfNums numsL mkS
  rw [List.map_map]
  have : l.map ((fun n : Int => UInt8.ofNat n.toNat) ∘ fun c : UInt8 => (c.toNat : Int)) = l := by
    conv => rhs; rw [← List.map_id l]
    apply List.map_congr_left
    intro c _
    simp
  rw [this]
theorem numsL_app (a b : List UInt8) : numsL (a ++ b) = numsL a ++ numsL b := by unfold numsL; rw [List.map_append]
theorem numsL_len (l : List UInt8) : (numsL l).length = l.length := by unfold numsL; rw [List.length_map]
theorem wireL_len (l : List UInt8) : (wireL l).length ≤ 2 * l.length := by
  induction l with
  | nil => simp [wireL]
  | cons c l ih =>
    have e : wireL (c :: l) = wire1 c ++ wireL l := rfl
    have h1 : (wire1 c).length ≤ 2 := by unfold wire1; split <;> simp
    rw [e, List.length_append, List.length_cons]; omega
theorem take_snoc (l : List UInt8) (i : Nat) (h : i < l.length) : l.take (i + 1) = l.take i ++ [l[i]] := List.take_succ_eq_append_getElem h
theorem last_at (l : List UInt8) (h : l ≠ []) : l.getLast? = some (l[l.length - 1]'(by have := List.length_pos_iff.2 h; omega)) := by
  rw [List.getLast?_eq_getElem?, List.getElem?_eq_getElem]
theorem refToLine_loop (l : List UInt8) (hl : l.length ≤ 900000) : ∀ d i : Nat, l.length - i = d → i ≤ l.length → (∀ c ∈ l.take i, c ≠ 13) →
    Ev (fun k => bulletinref15_ToLine.l0 k (mkS l) (numsL (wireL (l.take i))) (i : Int)) (if (13 : UInt8) ∈ l then (⟨#[]⟩, 6) else if l ≠ [] ∧ l.getLast? ≠ some 10 then (⟨#[]⟩, 4) else (mkS (wireL l), 0)) := by
  intro d
  induction d with
  | zero =>
    intro i hd hi hc
    have ht : l.take i = l := List.take_of_length_le (by omega)
    rw [ht] at hc ⊢
    have hno : ¬ (13 : UInt8) ∈ l := fun h => hc 13 h rfl
    rw [if_neg hno]
    refine Ev.next ?_
    simp only [bulletinref15_ToLine.l0, mkS_size, toList_mk]
    rw [strOf_nums]
    refine Ev.ite_neg (by omega) ?_
    by_cases h0 : l = []
    · exact Ev.rneg (by simp [h0]) (Ev.ite_pos h0 (Ev.const rfl))
    · have hp := List.length_pos_iff.2 h0
      have hw : wrap64 ((l.length : Int) - 1) = ((l.length - 1 : Nat) : Int) := by
        rw [show (l.length : Int) - 1 = ((l.length - 1 : Nat) : Int) by omega, wrap64_small (by omega) (by omega)]
      rw [hw, bt_mk l _ (by omega), last_at l h0]
      refine Ev.ite_neg h0 (Ev.ite_pos (by omega) (Ev.ite_pos (by omega) ?_))
      by_cases h10 : l[l.length - 1] = 10
      · exact Ev.rneg (by simp [h10]) (Ev.ite_pos ((byteTen _).2 h10) (Ev.const rfl))
      · exact Ev.rpos ⟨h0, by simpa using h10⟩ (Ev.ite_neg (fun h => h10 ((byteTen _).1 h)) (Ev.const rfl))
  | succ d ih =>
    intro i hd hi hc
    have hlt : i < l.length := by omega
    have hwl := wireL_len (l.take i)
    have htl : (l.take i).length = i := by rw [List.length_take]; omega
    rw [htl] at hwl
    refine Ev.next ?_
    simp only [bulletinref15_ToLine.l0, mkS_size]
    rw [bt_mk l i hlt, wrap_nat i (by omega)]
    refine Ev.ite_pos (by omega) (Ev.ite_pos (by omega) ?_)
    by_cases h13 : l[i] = 13
    · rw [if_pos (by rw [← h13]; exact List.getElem_mem hlt)]
      exact Ev.ite_pos ((byte13 _).2 h13) (Ev.const rfl)
    · refine Ev.ite_neg (fun h => h13 ((byte13 _).1 h)) ?_
      have hn := ih (i + 1) (by omega) (by omega) (by
        intro c hc'
        rw [take_snoc l i hlt] at hc'
        rcases List.mem_append.1 hc' with h | h
        · exact hc c h
        · have : c = l[i] := by simpa using h
          rw [this]; exact h13)
      rw [take_snoc l i hlt, wireL_app, numsL_app] at hn
      by_cases h10 : l[i] = 10
      · refine Ev.ite_pos ((byteTen _).2 h10) (Ev.ite_pos (by rw [numsL_len]; omega) ?_)
        simp only [Option.bind_some]
        refine Ev.ite_pos (by rw [List.length_append, numsL_len]; simp; omega) ?_
        have e : numsL (wireL (l.take i)) ++ numsL (wireL [l[i]]) = numsL (wireL (l.take i)) ++ [13] ++ [(l[i].toNat : Int)] := by
          have e2 : numsL (wireL [l[i]]) = [13, (l[i].toNat : Int)] := by rw [h10]; rfl
          rw [e2]; simp
        rw [e] at hn
        exact hn
      · refine Ev.ite_neg (fun h => h10 ((byteTen _).1 h)) (Ev.ite_pos (by rw [numsL_len]; omega) ?_)
        have e2 : numsL (wireL [l[i]]) = [(l[i].toNat : Int)] := by
          have : wireL [l[i]] = [l[i]] := wireL_plain _ (by simpa using h10)
          rw [this]; rfl
        rw [e2] at hn
        exact hn
theorem refToLineF (l : List UInt8) (hl : l.length ≤ 900000) : Ev (fun k => bulletinref15_ToLine.f k (mkS l)) (toL l) := by
  unfold bulletinref15_ToLine.f toL
  rw [mkS_size]
  by_cases h : 65536 < l.length
  · rw [if_pos h]; exact Ev.ite_pos (by omega) (Ev.const rfl)
  · rw [if_neg h]
    exact Ev.ite_neg (by omega) (refToLine_loop l hl _ 0 rfl (by omega) (by simp))
end Go.Proofs.YtfeciafdioepiaaGreatDoor
set_option linter.unusedVariables false
set_option linter.unusedSimpArgs false
namespace Go.Proofs.YtfeciafdioepiaaGreatDoor
open Go.RowKit Go.Proofs Go.Proofs.YtfeciafdioepiaaGreatDoorW.PrintWords Go.Proofs.YtfeciafdioepiaaGreatDoorW.PrintMore Go.Proofs.YtfeciafdioepiaaGreatDoor.PA
theorem wireL_last (l : List UInt8) (h : l ≠ [] → l.getLast? = some 10) : wireL l ≠ [] → (wireL l).getLast? = some 10 := by
  intro hne
  have h0 : l ≠ [] := by intro h0; subst h0; exact hne rfl
  obtain ⟨a, c, rfl⟩ : ∃ a c, l = a ++ [c] := ⟨l.dropLast, l.getLast h0, (List.dropLast_concat_getLast h0).symm⟩
  have hc : c = 10 := by simpa using h h0
  subst hc
  rw [wireL_app]
  have : wireL [10] = [13, 10] := rfl
  rw [this]; simp
theorem toL_ok (l : List UInt8) (hl : l.length ≤ 3000) (h : (toL l).2 = 0) : (toL l).1 = mkS (wireL l) ∧ fromL (wireL l) = (mkS l, 0, 0) := by
  unfold toL at h ⊢
  rw [if_neg (by omega)] at h ⊢
  by_cases h13 : (13 : UInt8) ∈ l
  · rw [if_pos h13] at h; exact absurd h (by decide)
  · rw [if_neg h13] at h ⊢
    by_cases hx : l ≠ [] ∧ l.getLast? ≠ some 10
    · rw [if_pos hx] at h; exact absurd h (by decide)
    · rw [if_neg hx]
      refine ⟨rfl, ?_⟩
      have hw := wireL_len l
      obtain ⟨w1, w2⟩ := wire_of l (fun c hc e => h13 (e ▸ hc))
      have hlast := wireL_last l (fun h0 => Classical.byContradiction fun hn => hx ⟨h0, hn⟩)
      unfold fromL
      rw [if_neg (by omega), wireE_wire w1 0]
      simp only []
      rw [if_neg (fun hh => hh.2 (hlast hh.1)), w2, if_neg (by omega)]
theorem ToLine_pure : PL.bulletinlaw15_ArticleToLine.Pure := by
  intro a ha
  obtain ⟨l, rfl⟩ : ∃ l, a = mkS l := ⟨a.data.toList, (mkS_data a).symm⟩
  refine Ev.at_ ?_
  unfold PL.bulletinlaw15_ArticleToLine.f
  have hs := shortF l 3000 (by omega)
  rw [show ((3000 : Nat) : Int) = 3000 from rfl] at hs
  rw [hs]
  have hlen : (l.take 3000).length ≤ 3000 := by rw [List.length_take]; omega
  generalize l.take 3000 = t at *
  simp only [Option.bind_some]
  have hw := wireL_len t
  rw [toLineF t (by omega)]
  simp only [Option.bind_some]
  refine Ev.bind (refToLineF t (by omega)) ?_
  by_cases h0 : (toL t).2 = 0
  · obtain ⟨h1, h2⟩ := toL_ok t hlen h0
    have hf := fromLineF (wireL t) (by omega)
    rw [h2] at hf
    rw [h1]
    refine Ev.bind hf (Ev.bind (a := true) (Ev.const rfl) (Ev.ite_pos rfl (Ev.ite_pos rfl (Ev.ite_pos rfl (Ev.ite_pos h0 (Ev.ite_pos rfl (Ev.ite_pos rfl (Ev.const rfl))))))))
  · have h1 : ∃ u : List UInt8, (toL t).1 = mkS u ∧ u.length ≤ 900000 := by
      unfold toL
      split
      · exact ⟨[], rfl, by simp⟩
      · split
        · exact ⟨[], rfl, by simp⟩
        · split
          · exact ⟨[], rfl, by simp⟩
          · exact ⟨_, rfl, by omega⟩
    obtain ⟨u, h1, h2⟩ := h1
    rw [h1]
    exact Ev.bind (fromLineF u h2) (Ev.bind (a := true) (Ev.const rfl) (Ev.ite_pos rfl (Ev.ite_pos rfl (Ev.ite_pos rfl (Ev.ite_neg h0 (Ev.const rfl))))))
end Go.Proofs.YtfeciafdioepiaaGreatDoor
namespace Go.Proofs.YtfeciafdioepiaaGreatDoor.Pure
theorem ArticleToLine : Go.Proofs.YtfeciafdioepiaaGreatDoor.PL.bulletinlaw15_ArticleToLine.Pure := Go.Proofs.YtfeciafdioepiaaGreatDoor.ToLine_pure
end Go.Proofs.YtfeciafdioepiaaGreatDoor.Pure
namespace Go.Proofs.YtfeciafdioepiaaGreatDoor.articleToLine
open Go.ChangeShapes Go.WideShapes Go.ChangeAt Go.RowKit
open Go.ChangeMaps (open_string shut_string)
set_option linter.unusedVariables false
theorem own : ownKnob Tryz.prog.godebug = none := by kernel_rfl
set_option maxRecDepth 100000 in
theorem lifted (os : Os) (started : os.Started) (H : Type) (enc : TypeId × Value → H) :
    ReturnsInHanded {} Tryz.checked os 9 .any (fun w args => (Rows.articleToLineSpec.pre enc Tryz.prog Tryz.f9 Rows.articleToLineRow.domain false w args ∧ laidMetH Tryz.prog Rows.articleToLineRow.laid w) ∧ sizedMet enc Tryz.prog Tryz.f9 (OpenSpec.ofChange Rows.articleToLineSpec) false w args) (Rows.articleToLineSpec.post enc Tryz.prog Tryz.f9 false true false false) := by
  refine handed_laid own started (by kernel_rfl) Tryz.func9
    (ChangeSpec.witness_shaped (enc := enc) (C := Tryz.checked) (os := os) (X := fun w _ => laidMetH Tryz.prog Rows.articleToLineRow.laid w) false (World.laidAll Tryz.prog os Rows.articleToLineRow.laid) #[.string ByteArray.empty] 8 (World.laidAll_os _ _ _)
      (World.shaped_of_ZipB (by kernel_rfl) (by kernel_rfl)) (by kernel_rfl) (by kernel_rfl) (by kernel_rfl)
      (by rw [MakeChecks.laidMetH_plain _ _ _ (by kernel_rfl)]; exact laidMet_laidAll _ (by kernel_rfl) (by kernel_rfl))) ?_
  intro W base args ds gs before hval0 hW hcnd hsz0 hL hsh _
  have hsz : (DataW.weightsEach Tryz.prog (Tryz.f9.params.toList ++ Rows.articleToLineSpec.plain.varTypes Tryz.prog) (ds ++ gs)).all (· ≤ reachBytes) = true := hsz0
  have hval : ∀ (j : Nat) t v, Tryz.f9.params[j]? = some t → args[j]? = some v → Value.okWide Tryz.prog W .any base t v := hval0
  have hW' := hW
  obtain ⟨p, q, hA0, hV, rfl, hfz, hnd⟩ := hW
  have hA : DataW.TrodAll enc Tryz.prog W 0 (fun _ => true) true Tryz.f9.params.toList args.toList ds p := hA0
  rw [Tryz.params9] at hA hval hsz
  obtain ⟨v0, vs0, d0, ds0, p0, q0, hargs, rfl, rfl, h0, r0⟩ := trodAll_cons hA
  obtain ⟨rfl, rfl, rfl⟩ := trodAll_nil r0
  obtain rfl : args = #[v0] := by cases args; simp_all
  obtain ⟨rfl, rfl⟩ := trodVars_none hV
  obtain ⟨a0, rfl, rfl, rfl, y0⟩ := open_string Tryz.underlying9 (hval 0 9 v0 rfl rfl) h0
  have w0 : a0.size ≤ 140737488351232 := by
    have z := sized_string hsz (j := 0) (t := 9) rfl rfl
    rw [Array.length_toList] at z
    exact z
  clear hA0 hval0 hsz0 hsz
  refine (PL.bulletinlaw15_ArticleToLine.walk Pure.ArticleToLine a0 W (Tryz.laysM143.s1_3 W hsh) w0).mono fun e W' ⟨he, bel⟩ => ?_
  subst he
  exact ⟨_, rfl, _, _, _, [], _, [], hW', trodAll_mk1 (shut_bool Tryz.underlying4 _), (trodAll_cons_mk (shut_string Tryz.underlying9 y0) trodAll_mk0), rfl, bel.frame _, fun h => by cases h⟩
theorem over : Rows.articleToLineRow.holds Tryz.pinned (OpenSpec.ofChange Rows.articleToLineSpec) :=
  OpenClaim.holds_of_wide 9 Tryz.f9 rfl rfl rfl rfl rfl rfl rfl ⟨rfl, rfl, rfl, rfl, rfl⟩ rfl rfl rfl rfl rfl (by kernel_rfl) Tryz.func9 (by kernel_rfl)
    (of_decide_eq_true (by kernel_rfl)) (by unfold Func.isWrapper; first | (rw [if_pos (by decide +kernel)]; kernel_rfl) | (rw [if_neg (by decide +kernel)]; exact ⟨rfl, rfl⟩))
    (fun os started H enc _ => lifted os started H enc)
theorem row_holds : Rows.ArticleToLineSaid := over
theorem card_holds : Rows.ArticleToLineCardSaid :=
  Claim7.holds_tied_plain_at .later [] [.data, .pinned] true (true, "0ed969f1a3953f9b426fc905d95e5da96efd084e39c94fceb3821d79c3635a2d") false row_holds (fun _ h => by cases h) (by kernel_rfl) (fun _ h => by cases h) articleToLine_row_tie rfl ⟨rfl, rfl⟩ (by kernel_rfl) rfl
    (fun f fn hf hfn => by
      obtain rfl : f = 9 := Option.some.inj ((show Tryz.prog.funcNamed "bulletin/bulletinlaw15.ArticleToLine" = some 9 by kernel_rfl).symm.trans hf) |>.symm
      obtain rfl : fn = Tryz.f9 := (Option.some.inj (Tryz.func9.symm.trans hfn)).symm
      exact ⟨by kernel_rfl, fun j t ht => by
        rw [Tryz.params9] at ht
        have hm : t ∈ [9] := by simpa using Array.mem_of_getElem? ht
        have hall : ([9].all fun u => !Tryz.prog.wantsStandIn u) = true := by kernel_rfl
        exact (show Tryz.prog.wantsStandIn t = false by simpa using List.all_eq_true.1 hall t hm)⟩)
    (by kernel_rfl)
#print axioms card_holds
end Go.Proofs.YtfeciafdioepiaaGreatDoor.articleToLine
namespace Go.Proofs.YtfeciafdioepiaaGreatDoor
/-- The card, under a short name, for the claim. -/
theorem articleToLine_holds : Rows.ArticleToLineCardSaid := articleToLine.card_holds
end Go.Proofs.YtfeciafdioepiaaGreatDoor
