/- The row of ArticleFromLine over the listed tables, and its tied card. -/
import Derived.Test.YtfeciafdioepiaaGreatDoorHFr4
import Derived.Test.YtfeciafdioepiaaGreatDoorHFr5
import Derived.Test.YtfeciafdioepiaaGreatDoorProg
import Derived.Below
import Derived.Deep.Draws
import Derived.Deep.AppendLies
import Derived.Maps.AppendAt
import Derived.OwnWalk
import Derived.Laws.BytesArg
import Derived.Laws.MakeOwn
import Derived.Laws.OwnMore
import Derived.Deep.OwnRows
import Derived.Tactics
import Derived.Lib.ConvBytes
import Derived.Laws.Slices
import Derived.WalkKit
import Derived.KernelRfl
import Derived.RowKit3
import Derived.Deep.LoopGhost
import Derived.Deep.QuietTactic
import Derived.BigQuiet
import Derived.WideLaws
import Derived.Deep.DeepCutAuto
import Derived.Deep.CutBlock
import Derived.Deep.RegionHeld3
import Derived.Laws.Rows
import Derived.Lib.AppendStr
import Derived.ArgAppend
import Derived.Laws.IdiomCopy
import Derived.OrdersHeld
import Derived.Laws.BitsLemmas
import Derived.RowKit
import Derived.Test.YtfeciafdioepiaaGreatDoorWWords
import Derived.Test.YtfeciafdioepiaaGreatDoorWLast
import Derived.Test.YtfeciafdioepiaaGreatDoorWTab
import Derived.Test.YtfeciafdioepiaaGreatDoorWFour
import Derived.Test.YtfeciafdioepiaaGreatDoorWQPut
import Derived.Test.YtfeciafdioepiaaGreatDoorWApart
import Derived.Test.YtfeciafdioepiaaGreatDoorWArr
import Derived.Test.YtfeciafdioepiaaGreatDoorWZeros
import Derived.Test.YtfeciafdioepiaaGreatDoorWFoot
import Derived.Test.YtfeciafdioepiaaGreatDoorWKept
import Derived.Test.YtfeciafdioepiaaGreatDoorWShare
import Derived.Test.YtfeciafdioepiaaGreatDoorWN
import Derived.Test.YtfeciafdioepiaaGreatDoorWFootNe
import Derived.Test.YtfeciafdioepiaaGreatDoorWAt
import Derived.Test.YtfeciafdioepiaaGreatDoorWEqStruct
import Derived.Test.YtfeciafdioepiaaGreatDoorWRepsOne
import Derived.Test.YtfeciafdioepiaaGreatDoorWInv
import Derived.Test.YtfeciafdioepiaaGreatDoorWInvWords
import Derived.Test.YtfeciafdioepiaaGreatDoorWGuard
import Derived.Test.YtfeciafdioepiaaGreatDoorWNEv
import Derived.Test.YtfeciafdioepiaaGreatDoorWMore
import Derived.Test.YtfeciafdioepiaaGreatDoorHFr0
import Derived.Test.YtfeciafdioepiaaGreatDoorHFr3
import Derived.Lib.CountLaws
import Derived.Lib.IndexBytes
import Derived.Test.YtfeciafdioepiaaGreatDoorRows
import Derived.Test.YtfeciafdioepiaaGreatDoorCards
import Derived.Test.YtfeciafdioepiaaGreatDoorTie
import Derived.ProofKit
import Derived.OpenShut
import Derived.ShutString
import Derived.ChangeOld
import Derived.SizedLaws
import Derived.HandedShaped
namespace Go.Proofs.YtfeciafdioepiaaGreatDoor.PC
open Go.Proofs.YtfeciafdioepiaaGreatDoor.PA
open Go.Proofs.YtfeciafdioepiaaGreatDoor
open Go.RowKit Go.Proofs.YtfeciafdioepiaaGreatDoorW.PrintWords Go.Proofs.YtfeciafdioepiaaGreatDoorW.PrintLast Go.Proofs.YtfeciafdioepiaaGreatDoorW.PrintMore
attribute [local go_sem] max2_int min2_int max_two min_two max_three min_three max_four min_four   -- for this text's walks alone
set_option linter.unusedVariables false
set_option linter.unusedSimpArgs false

/-! ### article_FromLine: function 31 -/
mutual
def article_FromLine.l0 : Nat → ByteArray → Int → Int → Option (ByteArray × Int × Int)
  | 0, _, _, _ => none
  | k + 1, x0, x11, x12 => if x12 < x11 then (if 0 ≤ x12 then (if x12 < (x0.size : Int) then (if (bt x0 x12) = 13 then (if x12 ≤ (x0.size : Int) then ((PA.strings_HasPrefix.f (x0.extract (x12 : Int).toNat x0.size) (⟨#[13, 10]⟩ : ByteArray)).bind fun t121 => (article_FromLine.j1 k x0 x12 x11 x12 (!t121))) else (none)) else (article_FromLine.j1 k x0 x12 x11 x12 false)) else (none)) else (none)) else (if x0.toList = ([] : List UInt8) then (article_FromLine.j2 k x0 false) else ((PA.strings_HasSuffix.f x0 (⟨#[10]⟩ : ByteArray)).bind fun t123 => (article_FromLine.j2 k x0 (!t123))))
def article_FromLine.j1 : Nat → ByteArray → Int → Int → Int → Bool → Option (ByteArray × Int × Int)
  | 0, _, _, _, _, _ => none
  | k + 1, x0, x5, x11, x12, x15 => if x15 = true then (some ((⟨#[]⟩ : ByteArray), x5, 3)) else (if 0 ≤ x5 then (if x5 < (x0.size : Int) then (if (bt x0 x5) = 10 then (if 0 ≤ (wrap64 (x5 + 1)) then (if (wrap64 (x5 + 1)) ≤ (x0.size : Int) then ((PA.strings_HasSuffix.f (x0.extract 0 ((wrap64 (x5 + 1)) : Int).toNat) (⟨#[13, 10]⟩ : ByteArray)).bind fun t122 => (if t122 = true then (article_FromLine.l0 k x0 x11 (wrap64 (x12 + 1))) else (some ((⟨#[]⟩ : ByteArray), x5, 3)))) else (none)) else (none)) else (article_FromLine.l0 k x0 x11 (wrap64 (x12 + 1)))) else (none)) else (none))
def article_FromLine.j2 : Nat → ByteArray → Bool → Option (ByteArray × Int × Int)
  | 0, _, _ => none
  | k + 1, x0, x49 => if x49 = true then (some ((⟨#[]⟩ : ByteArray), (x0.size : Int), 4)) else ((GV.ReplaceAll.f x0 (⟨#[13, 10]⟩ : ByteArray) (⟨#[10]⟩ : ByteArray)).bind fun t124 => (if (t124.size : Int) > 65536 then (some ((⟨#[]⟩ : ByteArray), 0, 5)) else (some (t124, 0, 0))))
end
def article_FromLine.f (k : Nat) (a0 : ByteArray) : Option (ByteArray × Int × Int) := if (a0.size : Int) > 131072 then (some ((⟨#[]⟩ : ByteArray), 131072, 5)) else (article_FromLine.l0 k a0 (a0.size : Int) 0)
set_option maxHeartbeats 8000000 in
set_option maxRecDepth 100000 in
theorem article_FromLine.calls (k : Nat) (a0 : ByteArray) (r1 : ByteArray) (r2 : Int) (r3 : Int) (w : World) (hgm : Gm w) (h : article_FromLine.f k a0 = some (r1, r2, r3)) :
    Calls Tryz.prog 31 #[.string a0] w fun e w' => e = .returned (.tuple #[.string r1, .int .i64 r2, .int .i64 r3]) ∧ Below w.heap.size w w' := by
  have HGM := Aside0.mk hgm
  clear hgm
  have HB := Aside0.mk (Below.refl w.heap.size w)
  have H : (if (a0.size : Int) > 131072 then (some ((⟨#[]⟩ : ByteArray), 131072, 5)) else (article_FromLine.l0 k a0 (a0.size : Int) 0)) = some (r1, r2, r3) := h
  clear h
  by_cases c2 : (a0.size : Int) > 131072
  · rw [if_pos c2] at H
    have c2b0 : decide (131072 < (a0.size : Int)) = true := decide_eq_true c2
    have c2b1 : decide (131072 < a0.size) = true := decide_eq_true (by omega)
    clear c2
    simp only [Option.some.injEq, Prod.mk.injEq] at H
    obtain ⟨rfl, rfl, rfl⟩ := H
    go_enter Tryz.func31, Tryz.ntmps31
    go_wp2
    go_ret3
    exact ⟨by first | rfl | (simp [errW_none, errW_some] <;> rfl) | (simp [*, errW_none, errW_some] <;> rfl), by repeat (first | (with_reducible first | exact HB.out | apply below_alloc | apply pw_below_drewN | apply below_drew1) | exact HB.out)⟩
  · rw [if_neg c2] at H
    have c2b0 : decide (131072 < (a0.size : Int)) = false := decide_eq_false c2
    have c2b1 : decide (131072 < a0.size) = false := decide_eq_false (by omega)
    clear c2
    have H' := Aside0.mk H
    clear H
    go_enter Tryz.func31, Tryz.ntmps31
    go_wp2
    go_loopg [12] k (fun kq v12 w' => ∃ (x12_1 : Int), v12 = .int .i64 x12_1 ∧ Aside0 (article_FromLine.l0 kq a0 (a0.size : Int) x12_1 = some (r1, r2, r3)) ∧ Aside0 (kq ≤ k) ∧ Aside0 (Below w.heap.size w w'))
    case atStart => exact ⟨(0), (by first | rfl | (simp; done) | (simp [*]; done)), H', ⟨Nat.le_refl _⟩, ⟨by repeat (first | (with_reducible first | exact HB.out | apply below_alloc | apply pw_below_drewN | apply below_drew1) | exact HB.out)⟩⟩
    case round =>
      clear H'
      try clear c2
      try clear c2b0
      try clear c2b1
      try clear p2
      obtain ⟨x12_1, rfl, HA, HK1, HB⟩ := hrel
      cases gk with
      | zero => exact absurd HA.out (by simp [article_FromLine.l0])
      | succ k1 =>
        have H := HA.out
        clear HA
        simp only [article_FromLine.l0] at H
        by_cases c3 : x12_1 < (a0.size : Int)
        · rw [if_pos c3] at H
          have c3b0 : decide (x12_1 < (a0.size : Int)) = true := decide_eq_true c3
          clear c3
          have HC4 := Aside0.mk H
          clear H
          go_upto_region 6 with (fail)
          go_cut [15] (fun v15 wc => ∃ (kq : Nat) (x15_3 : Bool), v15 = .bool x15_3 ∧ Aside0 (article_FromLine.j1 kq a0 x12_1 (a0.size : Int) x12_1 x15_3 = some (r1, r2, r3)) ∧ Aside0 (kq ≤ k1) ∧ Aside0 (Below w.heap.size w wc))
          case first =>
            have H := HC4.out
            clear HC4
            by_cases c5 : 0 ≤ x12_1
            · rw [if_pos c5] at H
              have c5b0 : decide (0 ≤ x12_1) = true := decide_eq_true c5
              clear c5
              (first | rw [c5b0] | (simp only [i64_w, i32_w]; rw [c5b0]) | skip)
              by_cases c6 : x12_1 < (a0.size : Int)
              · rw [if_pos c6] at H
                have c6b0 : decide (x12_1 < (a0.size : Int)) = true := decide_eq_true c6
                clear c6
                by_cases c8 : (bt a0 x12_1) = 13
                · rw [if_pos c8] at H
                  have c8b0 : ((bt a0 x12_1) == 13) = true := beq_iff_eq.mpr c8
                  have c8b1 : ((bt a0 x12_1) != 13) = false := bne_eq_false_iff_eq.mpr c8
                  clear c8
                  have c9b0 := eq_true (of_decide_eq_true (by first | (with_reducible assumption) | assumption) : 0 ≤ x12_1)
                  by_cases c10 : x12_1 ≤ (a0.size : Int)
                  · rw [if_pos c10] at H
                    have c10b0 := eq_true c10
                    have c10b1 : decide (x12_1 ≤ (a0.size : Int)) = true := decide_eq_true c10
                    clear c10
                    replace H := Option.bind_eq_some_iff.mp H
                    obtain ⟨t121, A110, H⟩ := H
                    replace H : (article_FromLine.j1 k1 a0 x12_1 (a0.size : Int) x12_1 (!t121)) = some (r1, r2, r3) := H
                    have A11 := Aside0.mk A110
                    clear A110
                    have H' := Aside0.mk H
                    clear H
                    have p7 : 0 ≤ (x12_1 : Int) := of_decide_eq_true (by first | (with_reducible assumption) | assumption)
                    have q7 : x12_1 < (a0.size : Int) := of_decide_eq_true (by first | (with_reducible assumption) | assumption)
                    have hx7 := bt_at a0 x12_1
                    replace p7 := eq_true p7
                    replace q7 := eq_true q7
                    go_wp2_with (first | (go_at_call 57; (with_reducible refine (PA.strings_HasPrefix.calls (a0.extract (x12_1 : Int).toNat a0.size) (⟨#[13, 10]⟩ : ByteArray) t121 _ A11.out).mono ?_); rintro e w' ⟨rfl, ⟨nd, rfl⟩⟩))
                    go_meet
                    case rel => exact ⟨_, (!t121), (by first | rfl | (simp; done) | (simp [*]; done)), H', ⟨by have := HK1.out; first | omega | exact Nat.le_refl _⟩, ⟨by repeat (first | (with_reducible first | exact HB.out | apply below_alloc | apply pw_below_drewN | apply below_drew1) | exact HB.out)⟩⟩
                  · rw [if_neg c10] at H
                    exact absurd H (by simp)
                · rw [if_neg c8] at H
                  have c8b0 : ((bt a0 x12_1) == 13) = false := beq_eq_false_iff_ne.mpr c8
                  have c8b1 : ((bt a0 x12_1) != 13) = true := bne_iff_ne.mpr c8
                  have H' := Aside0.mk H
                  clear H
                  have p7 : 0 ≤ (x12_1 : Int) := of_decide_eq_true (by first | (with_reducible assumption) | assumption)
                  have q7 : x12_1 < (a0.size : Int) := of_decide_eq_true (by first | (with_reducible assumption) | assumption)
                  have hx7 := bt_at a0 x12_1
                  replace p7 := eq_true p7
                  replace q7 := eq_true q7
                  go_wp2
                  go_meet
                  case rel => exact ⟨_, (false), (by first | rfl | (simp; done) | (simp [*]; done)), H', ⟨by have := HK1.out; first | omega | exact Nat.le_refl _⟩, ⟨by repeat (first | (with_reducible first | exact HB.out | apply below_alloc | apply pw_below_drewN | apply below_drew1) | exact HB.out)⟩⟩
              · rw [if_neg c6] at H
                exact absurd H (by simp)
            · rw [if_neg c5] at H
              exact absurd H (by simp)
          case rest =>
            clear HC4
            try clear c1
            try clear c2
            try clear c2b0
            try clear c2b1
            try clear p2
            try clear c3
            try clear c3b0
            try clear c5
            try clear c5b0
            try clear c6
            try clear c6b0
            try clear p7
            try clear q7
            try clear hx7
            try clear c8
            try clear c8b0
            try clear c8b1
            try clear c9
            try clear c9b0
            try clear c10
            try clear c10b0
            try clear c10b1
            try clear p2
            try clear p7
            try clear q7
            obtain ⟨kq, x15_3, rfl, HA, HJ3, HB⟩ := hcut
            cases kq with
            | zero => exact absurd HA.out (by simp [article_FromLine.j1])
            | succ kj3 =>
              have H := HA.out
              clear HA
              simp only [article_FromLine.j1] at H
              by_cases c12 : x15_3 = true
              · subst c12
                have H1 : (some ((⟨#[]⟩ : ByteArray), x12_1, 3)) = some (r1, r2, r3) := by rw [if_pos rfl] at H; exact H
                clear H
                have H := H1
                clear H1
                simp only [Option.some.injEq, Prod.mk.injEq] at H
                obtain ⟨rfl, rfl, rfl⟩ := H
                go_wp2
                go_ret3
                exact ⟨by first | rfl | (simp [errW_none, errW_some] <;> rfl) | (simp [*, errW_none, errW_some] <;> rfl), by repeat (first | (with_reducible first | exact HB.out | apply below_alloc | apply pw_below_drewN | apply below_drew1) | exact HB.out)⟩
              · replace c12 := Bool.eq_false_iff.mpr c12
                subst c12
                have H1 : (if 0 ≤ x12_1 then (if x12_1 < (a0.size : Int) then (if (bt a0 x12_1) = 10 then (if 0 ≤ (wrap64 (x12_1 + 1)) then (if (wrap64 (x12_1 + 1)) ≤ (a0.size : Int) then ((PA.strings_HasSuffix.f (a0.extract 0 ((wrap64 (x12_1 + 1)) : Int).toNat) (⟨#[13, 10]⟩ : ByteArray)).bind fun t122 => (if t122 = true then (article_FromLine.l0 kj3 a0 (a0.size : Int) (wrap64 (x12_1 + 1))) else (some ((⟨#[]⟩ : ByteArray), x12_1, 3)))) else (none)) else (none)) else (article_FromLine.l0 kj3 a0 (a0.size : Int) (wrap64 (x12_1 + 1)))) else (none)) else (none)) = some (r1, r2, r3) := by rw [if_neg (show ¬ (false = true) by decide)] at H; exact H
                clear H
                have H := H1
                clear H1
                by_cases c13 : 0 ≤ x12_1
                · rw [if_pos c13] at H
                  have c13b0 : decide (0 ≤ x12_1) = true := decide_eq_true c13
                  clear c13
                  by_cases c14 : x12_1 < (a0.size : Int)
                  · rw [if_pos c14] at H
                    have c14b0 : decide (x12_1 < (a0.size : Int)) = true := decide_eq_true c14
                    clear c14
                    by_cases c16 : (bt a0 x12_1) = 10
                    · rw [if_pos c16] at H
                      have c16b0 : ((bt a0 x12_1) == 10) = true := beq_iff_eq.mpr c16
                      have c16b1 : ((bt a0 x12_1) != 10) = false := bne_eq_false_iff_eq.mpr c16
                      clear c16
                      obtain ⟨ji17, hji17⟩ : ∃ j_ : Int, (wrap64 (x12_1 + 1)) = j_ := ⟨_, rfl⟩
                      replace H : (if 0 ≤ (ji17) then (if (ji17) ≤ (a0.size : Int) then ((PA.strings_HasSuffix.f (a0.extract 0 ((ji17) : Int).toNat) (⟨#[13, 10]⟩ : ByteArray)).bind fun t122 => (if t122 = true then (article_FromLine.l0 kj3 a0 (a0.size : Int) ji17) else (some ((⟨#[]⟩ : ByteArray), x12_1, 3)))) else (none)) else (none)) = some (r1, r2, r3) := by first | (rw [hji17] at H; exact H) | (simp only [hji17] at H ⊢; exact H)
                      have hji17w : (IntKind.i64.wrap (x12_1 + 1)) = ji17 := (i64_w _).trans hji17
                      by_cases c18 : 0 ≤ (ji17)
                      · rw [if_pos c18] at H
                        have c18b0 := eq_true c18
                        have c18b1 : decide (0 ≤ (ji17)) = true := decide_eq_true c18
                        clear c18
                        by_cases c19 : (ji17) ≤ (a0.size : Int)
                        · rw [if_pos c19] at H
                          have c19b0 := eq_true c19
                          have c19b1 : decide ((ji17) ≤ (a0.size : Int)) = true := decide_eq_true c19
                          clear c19
                          replace H := Option.bind_eq_some_iff.mp H
                          obtain ⟨t122, A200, H⟩ := H
                          replace H : (if t122 = true then (article_FromLine.l0 kj3 a0 (a0.size : Int) ji17) else (some ((⟨#[]⟩ : ByteArray), x12_1, 3))) = some (r1, r2, r3) := H
                          have A20 := Aside0.mk A200
                          clear A200
                          by_cases c21 : t122 = true
                          · subst c21
                            have H1 : (article_FromLine.l0 kj3 a0 (a0.size : Int) ji17) = some (r1, r2, r3) := by rw [if_pos rfl] at H; exact H
                            clear H
                            have H := H1
                            clear H1
                            have H' := Aside0.mk H
                            clear H
                            have p15 : 0 ≤ (x12_1 : Int) := of_decide_eq_true (by first | (with_reducible assumption) | assumption)
                            have q15 : x12_1 < (a0.size : Int) := of_decide_eq_true (by first | (with_reducible assumption) | assumption)
                            have hx15 := bt_at a0 x12_1
                            replace p15 := eq_true p15
                            replace q15 := eq_true q15
                            go_wp2_with (first | (go_at_call 55; (with_reducible refine (PA.strings_HasSuffix.calls (a0.extract 0 ((ji17) : Int).toNat) (⟨#[13, 10]⟩ : ByteArray) true _ A20.out).mono ?_); rintro e w' ⟨rfl, ⟨nd, rfl⟩⟩))
                            go_roundg kj3
                            case measure => have := HK1.out; have := HJ3.out; omega
                            case rel => exact ⟨(ji17), (by first | rfl | (simp; done) | (simp only [← hji17] <;> (first | rfl | simp)) | (simp [*]; done)), H', ⟨by have := HK1.out; have := HJ3.out; omega⟩, ⟨by repeat (first | (with_reducible first | exact HB.out | apply below_alloc | apply pw_below_drewN | apply below_drew1) | exact HB.out)⟩⟩
                          · replace c21 := Bool.eq_false_iff.mpr c21
                            subst c21
                            have H1 : (some ((⟨#[]⟩ : ByteArray), x12_1, 3)) = some (r1, r2, r3) := by rw [if_neg (show ¬ (false = true) by decide)] at H; exact H
                            clear H
                            have H := H1
                            clear H1
                            simp only [Option.some.injEq, Prod.mk.injEq] at H
                            obtain ⟨rfl, rfl, rfl⟩ := H
                            have p15 : 0 ≤ (x12_1 : Int) := of_decide_eq_true (by first | (with_reducible assumption) | assumption)
                            have q15 : x12_1 < (a0.size : Int) := of_decide_eq_true (by first | (with_reducible assumption) | assumption)
                            have hx15 := bt_at a0 x12_1
                            replace p15 := eq_true p15
                            replace q15 := eq_true q15
                            go_wp2_with (first | (go_at_call 55; (with_reducible refine (PA.strings_HasSuffix.calls (a0.extract 0 ((ji17) : Int).toNat) (⟨#[13, 10]⟩ : ByteArray) false _ A20.out).mono ?_); rintro e w' ⟨rfl, ⟨nd, rfl⟩⟩))
                            go_ret3
                            exact ⟨by first | rfl | (simp [errW_none, errW_some] <;> rfl) | (simp only [← hji17]; first | rfl | (simp [errW_none, errW_some] <;> rfl)) | (simp [*, errW_none, errW_some] <;> rfl), by repeat (first | (with_reducible first | exact HB.out | apply below_alloc | apply pw_below_drewN | apply below_drew1) | exact HB.out)⟩
                        · rw [if_neg c19] at H
                          exact absurd H (by simp)
                      · rw [if_neg c18] at H
                        exact absurd H (by simp)
                    · rw [if_neg c16] at H
                      have c16b0 : ((bt a0 x12_1) == 10) = false := beq_eq_false_iff_ne.mpr c16
                      have c16b1 : ((bt a0 x12_1) != 10) = true := bne_iff_ne.mpr c16
                      have H' := Aside0.mk H
                      clear H
                      have p15 : 0 ≤ (x12_1 : Int) := of_decide_eq_true (by first | (with_reducible assumption) | assumption)
                      have q15 : x12_1 < (a0.size : Int) := of_decide_eq_true (by first | (with_reducible assumption) | assumption)
                      have hx15 := bt_at a0 x12_1
                      replace p15 := eq_true p15
                      replace q15 := eq_true q15
                      go_wp2
                      go_roundg kj3
                      case measure => have := HK1.out; have := HJ3.out; omega
                      case rel => exact ⟨(wrap64 (x12_1 + 1)), (by first | rfl | (simp; done) | (simp [*]; done)), H', ⟨by have := HK1.out; have := HJ3.out; omega⟩, ⟨by repeat (first | (with_reducible first | exact HB.out | apply below_alloc | apply pw_below_drewN | apply below_drew1) | exact HB.out)⟩⟩
                  · rw [if_neg c14] at H
                    exact absurd H (by simp)
                · rw [if_neg c13] at H
                  exact absurd H (by simp)
        · rw [if_neg c3] at H
          have c3b0 : decide (x12_1 < (a0.size : Int)) = false := decide_eq_false c3
          clear c3
          have HC22 := Aside0.mk H
          clear H
          go_upto_region 11 with (fail)
          go_cut [49] (fun v49 wc => ∃ (kq : Nat) (x49_21 : Bool), v49 = .bool x49_21 ∧ Aside0 (article_FromLine.j2 kq a0 x49_21 = some (r1, r2, r3)) ∧ Aside0 (kq ≤ k1) ∧ Aside0 (Below w.heap.size w wc))
          case first =>
            have H := HC22.out
            clear HC22
            by_cases c23 : a0.toList = ([] : List UInt8)
            · rw [if_pos c23] at H
              have c23b0 : (a0.toList == ([] : List UInt8)) = true := beq_iff_eq.mpr c23
              have c23b1 : (a0.toList != ([] : List UInt8)) = false := bne_eq_false_iff_eq.mpr c23
              clear c23
              (first | rw [c23b0] | (simp only [i64_w, i32_w]; rw [c23b0]) | skip)
              have H' := Aside0.mk H
              clear H
              go_wp2
              go_meet
              case rel => exact ⟨_, (false), (by first | rfl | (simp; done) | (simp [*]; done)), H', ⟨by have := HK1.out; first | omega | exact Nat.le_refl _⟩, ⟨by repeat (first | (with_reducible first | exact HB.out | apply below_alloc | apply pw_below_drewN | apply below_drew1) | exact HB.out)⟩⟩
            · rw [if_neg c23] at H
              have c23b0 : (a0.toList == ([] : List UInt8)) = false := beq_eq_false_iff_ne.mpr c23
              have c23b1 : (a0.toList != ([] : List UInt8)) = true := bne_iff_ne.mpr c23
              (first | rw [c23b0] | (simp only [i64_w, i32_w]; rw [c23b0]) | skip)
              replace H := Option.bind_eq_some_iff.mp H
              obtain ⟨t123, A240, H⟩ := H
              replace H : (article_FromLine.j2 k1 a0 (!t123)) = some (r1, r2, r3) := H
              have A24 := Aside0.mk A240
              clear A240
              have H' := Aside0.mk H
              clear H
              go_wp2_with (first | (go_at_call 55; (with_reducible refine (PA.strings_HasSuffix.calls a0 (⟨#[10]⟩ : ByteArray) t123 _ A24.out).mono ?_); rintro e w' ⟨rfl, ⟨nd, rfl⟩⟩))
              go_meet
              case rel => exact ⟨_, (!t123), (by first | rfl | (simp; done) | (simp [*]; done)), H', ⟨by have := HK1.out; first | omega | exact Nat.le_refl _⟩, ⟨by repeat (first | (with_reducible first | exact HB.out | apply below_alloc | apply pw_below_drewN | apply below_drew1) | exact HB.out)⟩⟩
          case rest =>
            clear HC22
            try clear c1
            try clear p1
            try clear q1
            try clear hx1
            try clear c2
            try clear c2b0
            try clear c2b1
            try clear p2
            try clear c3
            try clear c3b0
            try clear c5
            try clear c5b0
            try clear c6
            try clear c6b0
            try clear p6
            try clear p7
            try clear q7
            try clear hx7
            try clear c8
            try clear c8b0
            try clear c8b1
            try clear c9
            try clear c9b0
            try clear c10
            try clear c10b0
            try clear c10b1
            try clear c12
            try clear c13
            try clear c13b0
            try clear c14
            try clear c14b0
            try clear p15
            try clear q15
            try clear hx15
            try clear c16
            try clear c16b0
            try clear c16b1
            try clear c18
            try clear c18b0
            try clear c18b1
            try clear c19
            try clear c19b0
            try clear c19b1
            try clear c21
            try clear c23
            try clear c23b0
            try clear c23b1
            try clear p15
            try clear p2
            try clear p7
            try clear q15
            try clear q7
            obtain ⟨kq, x49_21, rfl, HA, HJ21, HB⟩ := hcut
            cases kq with
            | zero => exact absurd HA.out (by simp [article_FromLine.j2])
            | succ kj21 =>
              have H := HA.out
              clear HA
              simp only [article_FromLine.j2] at H
              by_cases c25 : x49_21 = true
              · subst c25
                have H1 : (some ((⟨#[]⟩ : ByteArray), (a0.size : Int), 4)) = some (r1, r2, r3) := by rw [if_pos rfl] at H; exact H
                clear H
                have H := H1
                clear H1
                simp only [Option.some.injEq, Prod.mk.injEq] at H
                obtain ⟨rfl, rfl, rfl⟩ := H
                go_wp2
                go_ret3
                exact ⟨by first | rfl | (simp [errW_none, errW_some] <;> rfl) | (simp [*, errW_none, errW_some] <;> rfl), by repeat (first | (with_reducible first | exact HB.out | apply below_alloc | apply pw_below_drewN | apply below_drew1) | exact HB.out)⟩
              · replace c25 := Bool.eq_false_iff.mpr c25
                subst c25
                have H1 : ((GV.ReplaceAll.f a0 (⟨#[13, 10]⟩ : ByteArray) (⟨#[10]⟩ : ByteArray)).bind fun t124 => (if (t124.size : Int) > 65536 then (some ((⟨#[]⟩ : ByteArray), 0, 5)) else (some (t124, 0, 0)))) = some (r1, r2, r3) := by rw [if_neg (show ¬ (false = true) by decide)] at H; exact H
                clear H
                have H := H1
                clear H1
                replace H := Option.bind_eq_some_iff.mp H
                obtain ⟨t124, A260, H⟩ := H
                replace H : (if (t124.size : Int) > 65536 then (some ((⟨#[]⟩ : ByteArray), 0, 5)) else (some (t124, 0, 0))) = some (r1, r2, r3) := H
                have A26 := Aside0.mk A260
                clear A260
                by_cases c27 : (t124.size : Int) > 65536
                · rw [if_pos c27] at H
                  have c27b0 : decide (65536 < (t124.size : Int)) = true := decide_eq_true c27
                  have c27b1 : decide (65536 < t124.size) = true := decide_eq_true (by omega)
                  clear c27
                  simp only [Option.some.injEq, Prod.mk.injEq] at H
                  obtain ⟨rfl, rfl, rfl⟩ := H
                  go_wp2_with (first | ((with_reducible refine gate_callee (f := 56) rfl ?_); refine goesL_ (some 53) rfl rfl Tryz.func56 (by kernel_rfl) rfl #[.string a0, .string (⟨#[13, 10]⟩ : ByteArray), .string (⟨#[10]⟩ : ByteArray)] rfl (by (try simp only [List.map_toArray, List.map_cons, List.map_nil]); first | done | rfl | (simp only [List.length_drop, List.length_take]; rfl)) ?_; (with_reducible refine (GV.ReplaceAll.calls a0 (⟨#[13, 10]⟩ : ByteArray) (⟨#[10]⟩ : ByteArray) t124 _ ?side1 A26.out).mono ?_); (case side1 => exact gm_at HGM.out (by repeat (first | (with_reducible first | exact HB.out | apply below_alloc | apply pw_below_drewN | apply below_drew1) | exact HB.out))); rintro e w28 ⟨rfl, hb⟩; refine ⟨_, rfl, ?_⟩; have n0_ := Aside0.mk (below_step (by repeat (first | (with_reducible first | exact HB.out | apply below_alloc | apply pw_below_drewN | apply below_drew1) | exact HB.out)) hb); clear HB; have HB := n0_; clear n0_; (try clear hb); (try clear hb2); (try clear hk); (try clear hi)))
                  go_ret3
                  exact ⟨by first | rfl | (simp [errW_none, errW_some] <;> rfl) | (simp [*, errW_none, errW_some] <;> rfl), by repeat (first | (with_reducible first | exact HB.out | apply below_alloc | apply pw_below_drewN | apply below_drew1) | exact HB.out)⟩
                · rw [if_neg c27] at H
                  have c27b0 : decide (65536 < (t124.size : Int)) = false := decide_eq_false c27
                  have c27b1 : decide (65536 < t124.size) = false := decide_eq_false (by omega)
                  clear c27
                  simp only [Option.some.injEq, Prod.mk.injEq] at H
                  obtain ⟨rfl, rfl, rfl⟩ := H
                  go_wp2_with (first | ((with_reducible refine gate_callee (f := 56) rfl ?_); refine goesL_ (some 53) rfl rfl Tryz.func56 (by kernel_rfl) rfl #[.string a0, .string (⟨#[13, 10]⟩ : ByteArray), .string (⟨#[10]⟩ : ByteArray)] rfl (by (try simp only [List.map_toArray, List.map_cons, List.map_nil]); first | done | rfl | (simp only [List.length_drop, List.length_take]; rfl)) ?_; (with_reducible refine (GV.ReplaceAll.calls a0 (⟨#[13, 10]⟩ : ByteArray) (⟨#[10]⟩ : ByteArray) t124 _ ?side1 A26.out).mono ?_); (case side1 => exact gm_at HGM.out (by repeat (first | (with_reducible first | exact HB.out | apply below_alloc | apply pw_below_drewN | apply below_drew1) | exact HB.out))); rintro e w29 ⟨rfl, hb⟩; refine ⟨_, rfl, ?_⟩; have n0_ := Aside0.mk (below_step (by repeat (first | (with_reducible first | exact HB.out | apply below_alloc | apply pw_below_drewN | apply below_drew1) | exact HB.out)) hb); clear HB; have HB := n0_; clear n0_; (try clear hb); (try clear hb2); (try clear hk); (try clear hi)))
                  go_ret3
                  exact ⟨by first | rfl | (simp [errW_none, errW_some] <;> rfl) | (simp [*, errW_none, errW_some] <;> rfl), by repeat (first | (with_reducible first | exact HB.out | apply below_alloc | apply pw_below_drewN | apply below_drew1) | exact HB.out)⟩

end Go.Proofs.YtfeciafdioepiaaGreatDoor.PC
namespace Go.Proofs.YtfeciafdioepiaaGreatDoor.PL
open Go.Proofs.YtfeciafdioepiaaGreatDoor.PA
open Go.Proofs.YtfeciafdioepiaaGreatDoor
open Go.RowKit Go.Proofs.YtfeciafdioepiaaGreatDoorW.PrintWords Go.Proofs.YtfeciafdioepiaaGreatDoorW.PrintLast Go.Proofs.YtfeciafdioepiaaGreatDoorW.PrintMore
attribute [local go_sem] max2_int min2_int max_two min_two max_three min_three max_four min_four   -- for this text's walks alone
set_option linter.unusedVariables false
set_option linter.unusedSimpArgs false

/-! ### bulletinlaw15_ArticleStrips: function 8 -/
/-! ### bulletinlaw15_ArticleToLine: function 9 -/
/-! ### bulletinlaw15_ArticleFromLine: function 10 -/
def bulletinlaw15_ArticleFromLine.f (k : Nat) (a0 : ByteArray) : Option (Bool) := (PA.bulletinlaw15_short.f a0 3000).bind fun t196 => ((PC.article_FromLine.f k t196).bind fun bt197 => ((PA.bulletinref15_FromLine.f k t196).bind fun bt200 => ((PC.article_ToLine.f bt197.1).bind fun bt203 => ((GV.known.f).bind fun t205 => (if t205 = true then (if bt197.1.toList = bt200.1.toList then (if bt197.2.1 = bt200.2.1 then (if bt197.2.2 = bt200.2.2 then (if bt197.2.2 = 0 then (if bt203.2 = 0 then (some (bt203.1.toList == t196.toList)) else (some false)) else (some true)) else (some false)) else (some false)) else (some false)) else (some false))))))
set_option maxHeartbeats 8000000 in
set_option maxRecDepth 100000 in
theorem bulletinlaw15_ArticleFromLine.calls (k : Nat) (a0 : ByteArray) (r : Bool) (w : World) (hgm : Gm w) (h : bulletinlaw15_ArticleFromLine.f k a0 = some r) :
    Calls Tryz.prog 10 #[.string a0] w fun e w' => e = .returned (.bool r) ∧ Below w.heap.size w w' := by
  have HGM := Aside0.mk hgm
  clear hgm
  have HB := Aside0.mk (Below.refl w.heap.size w)
  have H : ((PA.bulletinlaw15_short.f a0 3000).bind fun t196 => ((PC.article_FromLine.f k t196).bind fun bt197 => ((PA.bulletinref15_FromLine.f k t196).bind fun bt200 => ((PC.article_ToLine.f bt197.1).bind fun bt203 => ((GV.known.f).bind fun t205 => (if t205 = true then (if bt197.1.toList = bt200.1.toList then (if bt197.2.1 = bt200.2.1 then (if bt197.2.2 = bt200.2.2 then (if bt197.2.2 = 0 then (if bt203.2 = 0 then (some (bt203.1.toList == t196.toList)) else (some false)) else (some true)) else (some false)) else (some false)) else (some false)) else (some false))))))) = some r := h
  clear h
  replace H := Option.bind_eq_some_iff.mp H
  obtain ⟨t196, A20, H⟩ := H
  replace H : ((PC.article_FromLine.f k t196).bind fun bt197 => ((PA.bulletinref15_FromLine.f k t196).bind fun bt200 => ((PC.article_ToLine.f bt197.1).bind fun bt203 => ((GV.known.f).bind fun t205 => (if t205 = true then (if bt197.1.toList = bt200.1.toList then (if bt197.2.1 = bt200.2.1 then (if bt197.2.2 = bt200.2.2 then (if bt197.2.2 = 0 then (if bt203.2 = 0 then (some (bt203.1.toList == t196.toList)) else (some false)) else (some true)) else (some false)) else (some false)) else (some false)) else (some false)))))) = some r := H
  have A2 := Aside0.mk A20
  clear A20
  replace H := Option.bind_eq_some_iff.mp H
  obtain ⟨⟨t197, t198, t199⟩, A30, H⟩ := H
  replace H : ((PA.bulletinref15_FromLine.f k t196).bind fun bt200 => ((PC.article_ToLine.f t197).bind fun bt203 => ((GV.known.f).bind fun t205 => (if t205 = true then (if t197.toList = bt200.1.toList then (if t198 = bt200.2.1 then (if t199 = bt200.2.2 then (if t199 = 0 then (if bt203.2 = 0 then (some (bt203.1.toList == t196.toList)) else (some false)) else (some true)) else (some false)) else (some false)) else (some false)) else (some false))))) = some r := H
  have A3 := Aside0.mk A30
  clear A30
  replace H := Option.bind_eq_some_iff.mp H
  obtain ⟨⟨t200, t201, t202⟩, A40, H⟩ := H
  replace H : ((PC.article_ToLine.f t197).bind fun bt203 => ((GV.known.f).bind fun t205 => (if t205 = true then (if t197.toList = t200.toList then (if t198 = t201 then (if t199 = t202 then (if t199 = 0 then (if bt203.2 = 0 then (some (bt203.1.toList == t196.toList)) else (some false)) else (some true)) else (some false)) else (some false)) else (some false)) else (some false)))) = some r := H
  have A4 := Aside0.mk A40
  clear A40
  replace H := Option.bind_eq_some_iff.mp H
  obtain ⟨⟨t203, t204⟩, A50, H⟩ := H
  replace H : ((GV.known.f).bind fun t205 => (if t205 = true then (if t197.toList = t200.toList then (if t198 = t201 then (if t199 = t202 then (if t199 = 0 then (if t204 = 0 then (some (t203.toList == t196.toList)) else (some false)) else (some true)) else (some false)) else (some false)) else (some false)) else (some false))) = some r := H
  have A5 := Aside0.mk A50
  clear A50
  replace H := Option.bind_eq_some_iff.mp H
  obtain ⟨t205, A60, H⟩ := H
  replace H : (if t205 = true then (if t197.toList = t200.toList then (if t198 = t201 then (if t199 = t202 then (if t199 = 0 then (if t204 = 0 then (some (t203.toList == t196.toList)) else (some false)) else (some true)) else (some false)) else (some false)) else (some false)) else (some false)) = some r := H
  have A6 := Aside0.mk A60
  clear A60
  by_cases c7 : t205 = true
  · subst c7
    have H1 : (if t197.toList = t200.toList then (if t198 = t201 then (if t199 = t202 then (if t199 = 0 then (if t204 = 0 then (some (t203.toList == t196.toList)) else (some false)) else (some true)) else (some false)) else (some false)) else (some false)) = some r := by rw [if_pos rfl] at H; exact H
    clear H
    have H := H1
    clear H1
    by_cases c8 : t197.toList = t200.toList
    · rw [if_pos c8] at H
      have c8b0 : (t197.toList == t200.toList) = true := beq_iff_eq.mpr c8
      have c8b1 : (t197.toList != t200.toList) = false := bne_eq_false_iff_eq.mpr c8
      clear c8
      by_cases c9 : t198 = t201
      · rw [if_pos c9] at H
        have c9b0 : (t198 == t201) = true := beq_iff_eq.mpr c9
        have c9b1 : (t198 != t201) = false := bne_eq_false_iff_eq.mpr c9
        clear c9
        by_cases c10 : t199 = t202
        · rw [if_pos c10] at H
          have c10b0 : (t199 == t202) = true := beq_iff_eq.mpr c10
          have c10b1 : (t199 != t202) = false := bne_eq_false_iff_eq.mpr c10
          clear c10
          by_cases c11 : t199 = 0
          · rw [if_pos c11] at H
            have c11b0 : (t199 == 0) = true := beq_iff_eq.mpr c11
            have c11b1 : (t199 != 0) = false := bne_eq_false_iff_eq.mpr c11
            clear c11
            by_cases c12 : t204 = 0
            · rw [if_pos c12] at H
              have c12b0 : (t204 == 0) = true := beq_iff_eq.mpr c12
              have c12b1 : (t204 != 0) = false := bne_eq_false_iff_eq.mpr c12
              clear c12
              obtain rfl := Option.some.inj H
              go_enter Tryz.func10, Tryz.ntmps10
              go_wp2_with (first | ((with_reducible refine gate_callee (f := 11) rfl ?_); refine goesL_ (some 12) rfl rfl Tryz.func11 (by kernel_rfl) rfl #[.string a0, .int .i64 3000] rfl (by (try simp only [List.map_toArray, List.map_cons, List.map_nil]); first | done | rfl | (simp only [List.length_drop, List.length_take]; rfl)) ?_; (with_reducible refine (PA.bulletinlaw15_short.calls a0 3000 t196 _ A2.out).mono ?_); rintro e w13 ⟨rfl, hb⟩; refine ⟨_, rfl, ?_⟩; have n0_ := Aside0.mk (below_step (by repeat (first | (with_reducible first | exact HB.out | apply below_alloc | apply pw_below_drewN | apply below_drew1) | exact HB.out)) hb); clear HB; have HB := n0_; clear n0_; (try clear hb); (try clear hb2); (try clear hk); (try clear hi)) | ((with_reducible refine gate_callee (f := 31) rfl ?_); refine goesL_ (some 15) rfl rfl Tryz.func31 (by kernel_rfl) rfl #[.string t196] rfl (by (try simp only [List.map_toArray, List.map_cons, List.map_nil]); first | done | rfl | (simp only [List.length_drop, List.length_take]; rfl)) ?_; (with_reducible refine (PC.article_FromLine.calls k t196 t197 t198 t199 _ ?side1 A3.out).mono ?_); (case side1 => exact gm_at HGM.out (by repeat (first | (with_reducible first | exact HB.out | apply below_alloc | apply pw_below_drewN | apply below_drew1) | exact HB.out))); rintro e w14 ⟨rfl, hb⟩; refine ⟨_, rfl, ?_⟩; have n0_ := Aside0.mk (below_step (by repeat (first | (with_reducible first | exact HB.out | apply below_alloc | apply pw_below_drewN | apply below_drew1) | exact HB.out)) hb); clear HB; have HB := n0_; clear n0_; (try clear hb); (try clear hb2); (try clear hk); (try clear hi)) | ((with_reducible refine gate_callee (f := 32) rfl ?_); refine goesL_ (some 21) rfl rfl Tryz.func32 (by kernel_rfl) rfl #[.string t196] rfl (by (try simp only [List.map_toArray, List.map_cons, List.map_nil]); first | done | rfl | (simp only [List.length_drop, List.length_take]; rfl)) ?_; (with_reducible refine (PA.bulletinref15_FromLine.calls k t196 t200 t201 t202 _ A4.out).mono ?_); rintro e w15 ⟨rfl, hb⟩; refine ⟨_, rfl, ?_⟩; have n0_ := Aside0.mk (below_step (by repeat (first | (with_reducible first | exact HB.out | apply below_alloc | apply pw_below_drewN | apply below_drew1) | exact HB.out)) hb); clear HB; have HB := n0_; clear n0_; (try clear hb); (try clear hb2); (try clear hk); (try clear hi)) | ((with_reducible refine gate_callee (f := 29) rfl ?_); refine goesL_ (some 27) rfl rfl Tryz.func29 (by kernel_rfl) rfl #[.string t197] rfl (by (try simp only [List.map_toArray, List.map_cons, List.map_nil]); first | done | rfl | (simp only [List.length_drop, List.length_take]; rfl)) ?_; (with_reducible refine (PC.article_ToLine.calls t197 t203 t204 _ ?side1 A5.out).mono ?_); (case side1 => exact gm_at HGM.out (by repeat (first | (with_reducible first | exact HB.out | apply below_alloc | apply pw_below_drewN | apply below_drew1) | exact HB.out))); rintro e w16 ⟨rfl, hb⟩; refine ⟨_, rfl, ?_⟩; have n0_ := Aside0.mk (below_step (by repeat (first | (with_reducible first | exact HB.out | apply below_alloc | apply pw_below_drewN | apply below_drew1) | exact HB.out)) hb); clear HB; have HB := n0_; clear n0_; (try clear hb); (try clear hb2); (try clear hk); (try clear hi)) | ((with_reducible refine gate_callee (f := 14) rfl ?_); refine goesL_ (some 30) rfl rfl Tryz.func14 (by kernel_rfl) rfl #[] rfl (by (try simp only [List.map_toArray, List.map_cons, List.map_nil]); first | done | rfl | (simp only [List.length_drop, List.length_take]; rfl)) ?_; (with_reducible refine (GV.known.calls  true _ ?side1 A6.out).mono ?_); (case side1 => exact gm_at HGM.out (by repeat (first | (with_reducible first | exact HB.out | apply below_alloc | apply pw_below_drewN | apply below_drew1) | exact HB.out))); rintro e w17 ⟨rfl, hb⟩; refine ⟨_, rfl, ?_⟩; have n0_ := Aside0.mk (below_step (by repeat (first | (with_reducible first | exact HB.out | apply below_alloc | apply pw_below_drewN | apply below_drew1) | exact HB.out)) hb); clear HB; have HB := n0_; clear n0_; (try clear hb); (try clear hb2); (try clear hk); (try clear hi)))
              go_ret
              exact ⟨by first | rfl | (simp [errW_none, errW_some] <;> rfl) | (simp [*, errW_none, errW_some] <;> rfl), by repeat (first | (with_reducible first | exact HB.out | apply below_alloc | apply pw_below_drewN | apply below_drew1) | exact HB.out)⟩
            · rw [if_neg c12] at H
              have c12b0 : (t204 == 0) = false := beq_eq_false_iff_ne.mpr c12
              have c12b1 : (t204 != 0) = true := bne_iff_ne.mpr c12
              obtain rfl := Option.some.inj H
              go_enter Tryz.func10, Tryz.ntmps10
              go_wp2_with (first | ((with_reducible refine gate_callee (f := 11) rfl ?_); refine goesL_ (some 12) rfl rfl Tryz.func11 (by kernel_rfl) rfl #[.string a0, .int .i64 3000] rfl (by (try simp only [List.map_toArray, List.map_cons, List.map_nil]); first | done | rfl | (simp only [List.length_drop, List.length_take]; rfl)) ?_; (with_reducible refine (PA.bulletinlaw15_short.calls a0 3000 t196 _ A2.out).mono ?_); rintro e w18 ⟨rfl, hb⟩; refine ⟨_, rfl, ?_⟩; have n0_ := Aside0.mk (below_step (by repeat (first | (with_reducible first | exact HB.out | apply below_alloc | apply pw_below_drewN | apply below_drew1) | exact HB.out)) hb); clear HB; have HB := n0_; clear n0_; (try clear hb); (try clear hb2); (try clear hk); (try clear hi)) | ((with_reducible refine gate_callee (f := 31) rfl ?_); refine goesL_ (some 15) rfl rfl Tryz.func31 (by kernel_rfl) rfl #[.string t196] rfl (by (try simp only [List.map_toArray, List.map_cons, List.map_nil]); first | done | rfl | (simp only [List.length_drop, List.length_take]; rfl)) ?_; (with_reducible refine (PC.article_FromLine.calls k t196 t197 t198 t199 _ ?side1 A3.out).mono ?_); (case side1 => exact gm_at HGM.out (by repeat (first | (with_reducible first | exact HB.out | apply below_alloc | apply pw_below_drewN | apply below_drew1) | exact HB.out))); rintro e w19 ⟨rfl, hb⟩; refine ⟨_, rfl, ?_⟩; have n0_ := Aside0.mk (below_step (by repeat (first | (with_reducible first | exact HB.out | apply below_alloc | apply pw_below_drewN | apply below_drew1) | exact HB.out)) hb); clear HB; have HB := n0_; clear n0_; (try clear hb); (try clear hb2); (try clear hk); (try clear hi)) | ((with_reducible refine gate_callee (f := 32) rfl ?_); refine goesL_ (some 21) rfl rfl Tryz.func32 (by kernel_rfl) rfl #[.string t196] rfl (by (try simp only [List.map_toArray, List.map_cons, List.map_nil]); first | done | rfl | (simp only [List.length_drop, List.length_take]; rfl)) ?_; (with_reducible refine (PA.bulletinref15_FromLine.calls k t196 t200 t201 t202 _ A4.out).mono ?_); rintro e w20 ⟨rfl, hb⟩; refine ⟨_, rfl, ?_⟩; have n0_ := Aside0.mk (below_step (by repeat (first | (with_reducible first | exact HB.out | apply below_alloc | apply pw_below_drewN | apply below_drew1) | exact HB.out)) hb); clear HB; have HB := n0_; clear n0_; (try clear hb); (try clear hb2); (try clear hk); (try clear hi)) | ((with_reducible refine gate_callee (f := 29) rfl ?_); refine goesL_ (some 27) rfl rfl Tryz.func29 (by kernel_rfl) rfl #[.string t197] rfl (by (try simp only [List.map_toArray, List.map_cons, List.map_nil]); first | done | rfl | (simp only [List.length_drop, List.length_take]; rfl)) ?_; (with_reducible refine (PC.article_ToLine.calls t197 t203 t204 _ ?side1 A5.out).mono ?_); (case side1 => exact gm_at HGM.out (by repeat (first | (with_reducible first | exact HB.out | apply below_alloc | apply pw_below_drewN | apply below_drew1) | exact HB.out))); rintro e w21 ⟨rfl, hb⟩; refine ⟨_, rfl, ?_⟩; have n0_ := Aside0.mk (below_step (by repeat (first | (with_reducible first | exact HB.out | apply below_alloc | apply pw_below_drewN | apply below_drew1) | exact HB.out)) hb); clear HB; have HB := n0_; clear n0_; (try clear hb); (try clear hb2); (try clear hk); (try clear hi)) | ((with_reducible refine gate_callee (f := 14) rfl ?_); refine goesL_ (some 30) rfl rfl Tryz.func14 (by kernel_rfl) rfl #[] rfl (by (try simp only [List.map_toArray, List.map_cons, List.map_nil]); first | done | rfl | (simp only [List.length_drop, List.length_take]; rfl)) ?_; (with_reducible refine (GV.known.calls  true _ ?side1 A6.out).mono ?_); (case side1 => exact gm_at HGM.out (by repeat (first | (with_reducible first | exact HB.out | apply below_alloc | apply pw_below_drewN | apply below_drew1) | exact HB.out))); rintro e w22 ⟨rfl, hb⟩; refine ⟨_, rfl, ?_⟩; have n0_ := Aside0.mk (below_step (by repeat (first | (with_reducible first | exact HB.out | apply below_alloc | apply pw_below_drewN | apply below_drew1) | exact HB.out)) hb); clear HB; have HB := n0_; clear n0_; (try clear hb); (try clear hb2); (try clear hk); (try clear hi)))
              go_ret
              exact ⟨by first | rfl | (simp [errW_none, errW_some] <;> rfl) | (simp [*, errW_none, errW_some] <;> rfl), by repeat (first | (with_reducible first | exact HB.out | apply below_alloc | apply pw_below_drewN | apply below_drew1) | exact HB.out)⟩
          · rw [if_neg c11] at H
            have c11b0 : (t199 == 0) = false := beq_eq_false_iff_ne.mpr c11
            have c11b1 : (t199 != 0) = true := bne_iff_ne.mpr c11
            obtain rfl := Option.some.inj H
            go_enter Tryz.func10, Tryz.ntmps10
            go_wp2_with (first | ((with_reducible refine gate_callee (f := 11) rfl ?_); refine goesL_ (some 12) rfl rfl Tryz.func11 (by kernel_rfl) rfl #[.string a0, .int .i64 3000] rfl (by (try simp only [List.map_toArray, List.map_cons, List.map_nil]); first | done | rfl | (simp only [List.length_drop, List.length_take]; rfl)) ?_; (with_reducible refine (PA.bulletinlaw15_short.calls a0 3000 t196 _ A2.out).mono ?_); rintro e w23 ⟨rfl, hb⟩; refine ⟨_, rfl, ?_⟩; have n0_ := Aside0.mk (below_step (by repeat (first | (with_reducible first | exact HB.out | apply below_alloc | apply pw_below_drewN | apply below_drew1) | exact HB.out)) hb); clear HB; have HB := n0_; clear n0_; (try clear hb); (try clear hb2); (try clear hk); (try clear hi)) | ((with_reducible refine gate_callee (f := 31) rfl ?_); refine goesL_ (some 15) rfl rfl Tryz.func31 (by kernel_rfl) rfl #[.string t196] rfl (by (try simp only [List.map_toArray, List.map_cons, List.map_nil]); first | done | rfl | (simp only [List.length_drop, List.length_take]; rfl)) ?_; (with_reducible refine (PC.article_FromLine.calls k t196 t197 t198 t199 _ ?side1 A3.out).mono ?_); (case side1 => exact gm_at HGM.out (by repeat (first | (with_reducible first | exact HB.out | apply below_alloc | apply pw_below_drewN | apply below_drew1) | exact HB.out))); rintro e w24 ⟨rfl, hb⟩; refine ⟨_, rfl, ?_⟩; have n0_ := Aside0.mk (below_step (by repeat (first | (with_reducible first | exact HB.out | apply below_alloc | apply pw_below_drewN | apply below_drew1) | exact HB.out)) hb); clear HB; have HB := n0_; clear n0_; (try clear hb); (try clear hb2); (try clear hk); (try clear hi)) | ((with_reducible refine gate_callee (f := 32) rfl ?_); refine goesL_ (some 21) rfl rfl Tryz.func32 (by kernel_rfl) rfl #[.string t196] rfl (by (try simp only [List.map_toArray, List.map_cons, List.map_nil]); first | done | rfl | (simp only [List.length_drop, List.length_take]; rfl)) ?_; (with_reducible refine (PA.bulletinref15_FromLine.calls k t196 t200 t201 t202 _ A4.out).mono ?_); rintro e w25 ⟨rfl, hb⟩; refine ⟨_, rfl, ?_⟩; have n0_ := Aside0.mk (below_step (by repeat (first | (with_reducible first | exact HB.out | apply below_alloc | apply pw_below_drewN | apply below_drew1) | exact HB.out)) hb); clear HB; have HB := n0_; clear n0_; (try clear hb); (try clear hb2); (try clear hk); (try clear hi)) | ((with_reducible refine gate_callee (f := 29) rfl ?_); refine goesL_ (some 27) rfl rfl Tryz.func29 (by kernel_rfl) rfl #[.string t197] rfl (by (try simp only [List.map_toArray, List.map_cons, List.map_nil]); first | done | rfl | (simp only [List.length_drop, List.length_take]; rfl)) ?_; (with_reducible refine (PC.article_ToLine.calls t197 t203 t204 _ ?side1 A5.out).mono ?_); (case side1 => exact gm_at HGM.out (by repeat (first | (with_reducible first | exact HB.out | apply below_alloc | apply pw_below_drewN | apply below_drew1) | exact HB.out))); rintro e w26 ⟨rfl, hb⟩; refine ⟨_, rfl, ?_⟩; have n0_ := Aside0.mk (below_step (by repeat (first | (with_reducible first | exact HB.out | apply below_alloc | apply pw_below_drewN | apply below_drew1) | exact HB.out)) hb); clear HB; have HB := n0_; clear n0_; (try clear hb); (try clear hb2); (try clear hk); (try clear hi)) | ((with_reducible refine gate_callee (f := 14) rfl ?_); refine goesL_ (some 30) rfl rfl Tryz.func14 (by kernel_rfl) rfl #[] rfl (by (try simp only [List.map_toArray, List.map_cons, List.map_nil]); first | done | rfl | (simp only [List.length_drop, List.length_take]; rfl)) ?_; (with_reducible refine (GV.known.calls  true _ ?side1 A6.out).mono ?_); (case side1 => exact gm_at HGM.out (by repeat (first | (with_reducible first | exact HB.out | apply below_alloc | apply pw_below_drewN | apply below_drew1) | exact HB.out))); rintro e w27 ⟨rfl, hb⟩; refine ⟨_, rfl, ?_⟩; have n0_ := Aside0.mk (below_step (by repeat (first | (with_reducible first | exact HB.out | apply below_alloc | apply pw_below_drewN | apply below_drew1) | exact HB.out)) hb); clear HB; have HB := n0_; clear n0_; (try clear hb); (try clear hb2); (try clear hk); (try clear hi)))
            go_ret
            exact ⟨by first | rfl | (simp [errW_none, errW_some] <;> rfl) | (simp [*, errW_none, errW_some] <;> rfl), by repeat (first | (with_reducible first | exact HB.out | apply below_alloc | apply pw_below_drewN | apply below_drew1) | exact HB.out)⟩
        · rw [if_neg c10] at H
          have c10b0 : (t199 == t202) = false := beq_eq_false_iff_ne.mpr c10
          have c10b1 : (t199 != t202) = true := bne_iff_ne.mpr c10
          obtain rfl := Option.some.inj H
          go_enter Tryz.func10, Tryz.ntmps10
          go_wp2_with (first | ((with_reducible refine gate_callee (f := 11) rfl ?_); refine goesL_ (some 12) rfl rfl Tryz.func11 (by kernel_rfl) rfl #[.string a0, .int .i64 3000] rfl (by (try simp only [List.map_toArray, List.map_cons, List.map_nil]); first | done | rfl | (simp only [List.length_drop, List.length_take]; rfl)) ?_; (with_reducible refine (PA.bulletinlaw15_short.calls a0 3000 t196 _ A2.out).mono ?_); rintro e w28 ⟨rfl, hb⟩; refine ⟨_, rfl, ?_⟩; have n0_ := Aside0.mk (below_step (by repeat (first | (with_reducible first | exact HB.out | apply below_alloc | apply pw_below_drewN | apply below_drew1) | exact HB.out)) hb); clear HB; have HB := n0_; clear n0_; (try clear hb); (try clear hb2); (try clear hk); (try clear hi)) | ((with_reducible refine gate_callee (f := 31) rfl ?_); refine goesL_ (some 15) rfl rfl Tryz.func31 (by kernel_rfl) rfl #[.string t196] rfl (by (try simp only [List.map_toArray, List.map_cons, List.map_nil]); first | done | rfl | (simp only [List.length_drop, List.length_take]; rfl)) ?_; (with_reducible refine (PC.article_FromLine.calls k t196 t197 t198 t199 _ ?side1 A3.out).mono ?_); (case side1 => exact gm_at HGM.out (by repeat (first | (with_reducible first | exact HB.out | apply below_alloc | apply pw_below_drewN | apply below_drew1) | exact HB.out))); rintro e w29 ⟨rfl, hb⟩; refine ⟨_, rfl, ?_⟩; have n0_ := Aside0.mk (below_step (by repeat (first | (with_reducible first | exact HB.out | apply below_alloc | apply pw_below_drewN | apply below_drew1) | exact HB.out)) hb); clear HB; have HB := n0_; clear n0_; (try clear hb); (try clear hb2); (try clear hk); (try clear hi)) | ((with_reducible refine gate_callee (f := 32) rfl ?_); refine goesL_ (some 21) rfl rfl Tryz.func32 (by kernel_rfl) rfl #[.string t196] rfl (by (try simp only [List.map_toArray, List.map_cons, List.map_nil]); first | done | rfl | (simp only [List.length_drop, List.length_take]; rfl)) ?_; (with_reducible refine (PA.bulletinref15_FromLine.calls k t196 t200 t201 t202 _ A4.out).mono ?_); rintro e w30 ⟨rfl, hb⟩; refine ⟨_, rfl, ?_⟩; have n0_ := Aside0.mk (below_step (by repeat (first | (with_reducible first | exact HB.out | apply below_alloc | apply pw_below_drewN | apply below_drew1) | exact HB.out)) hb); clear HB; have HB := n0_; clear n0_; (try clear hb); (try clear hb2); (try clear hk); (try clear hi)) | ((with_reducible refine gate_callee (f := 29) rfl ?_); refine goesL_ (some 27) rfl rfl Tryz.func29 (by kernel_rfl) rfl #[.string t197] rfl (by (try simp only [List.map_toArray, List.map_cons, List.map_nil]); first | done | rfl | (simp only [List.length_drop, List.length_take]; rfl)) ?_; (with_reducible refine (PC.article_ToLine.calls t197 t203 t204 _ ?side1 A5.out).mono ?_); (case side1 => exact gm_at HGM.out (by repeat (first | (with_reducible first | exact HB.out | apply below_alloc | apply pw_below_drewN | apply below_drew1) | exact HB.out))); rintro e w31 ⟨rfl, hb⟩; refine ⟨_, rfl, ?_⟩; have n0_ := Aside0.mk (below_step (by repeat (first | (with_reducible first | exact HB.out | apply below_alloc | apply pw_below_drewN | apply below_drew1) | exact HB.out)) hb); clear HB; have HB := n0_; clear n0_; (try clear hb); (try clear hb2); (try clear hk); (try clear hi)) | ((with_reducible refine gate_callee (f := 14) rfl ?_); refine goesL_ (some 30) rfl rfl Tryz.func14 (by kernel_rfl) rfl #[] rfl (by (try simp only [List.map_toArray, List.map_cons, List.map_nil]); first | done | rfl | (simp only [List.length_drop, List.length_take]; rfl)) ?_; (with_reducible refine (GV.known.calls  true _ ?side1 A6.out).mono ?_); (case side1 => exact gm_at HGM.out (by repeat (first | (with_reducible first | exact HB.out | apply below_alloc | apply pw_below_drewN | apply below_drew1) | exact HB.out))); rintro e w32 ⟨rfl, hb⟩; refine ⟨_, rfl, ?_⟩; have n0_ := Aside0.mk (below_step (by repeat (first | (with_reducible first | exact HB.out | apply below_alloc | apply pw_below_drewN | apply below_drew1) | exact HB.out)) hb); clear HB; have HB := n0_; clear n0_; (try clear hb); (try clear hb2); (try clear hk); (try clear hi)))
          go_ret
          exact ⟨by first | rfl | (simp [errW_none, errW_some] <;> rfl) | (simp [*, errW_none, errW_some] <;> rfl), by repeat (first | (with_reducible first | exact HB.out | apply below_alloc | apply pw_below_drewN | apply below_drew1) | exact HB.out)⟩
      · rw [if_neg c9] at H
        have c9b0 : (t198 == t201) = false := beq_eq_false_iff_ne.mpr c9
        have c9b1 : (t198 != t201) = true := bne_iff_ne.mpr c9
        obtain rfl := Option.some.inj H
        go_enter Tryz.func10, Tryz.ntmps10
        go_wp2_with (first | ((with_reducible refine gate_callee (f := 11) rfl ?_); refine goesL_ (some 12) rfl rfl Tryz.func11 (by kernel_rfl) rfl #[.string a0, .int .i64 3000] rfl (by (try simp only [List.map_toArray, List.map_cons, List.map_nil]); first | done | rfl | (simp only [List.length_drop, List.length_take]; rfl)) ?_; (with_reducible refine (PA.bulletinlaw15_short.calls a0 3000 t196 _ A2.out).mono ?_); rintro e w33 ⟨rfl, hb⟩; refine ⟨_, rfl, ?_⟩; have n0_ := Aside0.mk (below_step (by repeat (first | (with_reducible first | exact HB.out | apply below_alloc | apply pw_below_drewN | apply below_drew1) | exact HB.out)) hb); clear HB; have HB := n0_; clear n0_; (try clear hb); (try clear hb2); (try clear hk); (try clear hi)) | ((with_reducible refine gate_callee (f := 31) rfl ?_); refine goesL_ (some 15) rfl rfl Tryz.func31 (by kernel_rfl) rfl #[.string t196] rfl (by (try simp only [List.map_toArray, List.map_cons, List.map_nil]); first | done | rfl | (simp only [List.length_drop, List.length_take]; rfl)) ?_; (with_reducible refine (PC.article_FromLine.calls k t196 t197 t198 t199 _ ?side1 A3.out).mono ?_); (case side1 => exact gm_at HGM.out (by repeat (first | (with_reducible first | exact HB.out | apply below_alloc | apply pw_below_drewN | apply below_drew1) | exact HB.out))); rintro e w34 ⟨rfl, hb⟩; refine ⟨_, rfl, ?_⟩; have n0_ := Aside0.mk (below_step (by repeat (first | (with_reducible first | exact HB.out | apply below_alloc | apply pw_below_drewN | apply below_drew1) | exact HB.out)) hb); clear HB; have HB := n0_; clear n0_; (try clear hb); (try clear hb2); (try clear hk); (try clear hi)) | ((with_reducible refine gate_callee (f := 32) rfl ?_); refine goesL_ (some 21) rfl rfl Tryz.func32 (by kernel_rfl) rfl #[.string t196] rfl (by (try simp only [List.map_toArray, List.map_cons, List.map_nil]); first | done | rfl | (simp only [List.length_drop, List.length_take]; rfl)) ?_; (with_reducible refine (PA.bulletinref15_FromLine.calls k t196 t200 t201 t202 _ A4.out).mono ?_); rintro e w35 ⟨rfl, hb⟩; refine ⟨_, rfl, ?_⟩; have n0_ := Aside0.mk (below_step (by repeat (first | (with_reducible first | exact HB.out | apply below_alloc | apply pw_below_drewN | apply below_drew1) | exact HB.out)) hb); clear HB; have HB := n0_; clear n0_; (try clear hb); (try clear hb2); (try clear hk); (try clear hi)) | ((with_reducible refine gate_callee (f := 29) rfl ?_); refine goesL_ (some 27) rfl rfl Tryz.func29 (by kernel_rfl) rfl #[.string t197] rfl (by (try simp only [List.map_toArray, List.map_cons, List.map_nil]); first | done | rfl | (simp only [List.length_drop, List.length_take]; rfl)) ?_; (with_reducible refine (PC.article_ToLine.calls t197 t203 t204 _ ?side1 A5.out).mono ?_); (case side1 => exact gm_at HGM.out (by repeat (first | (with_reducible first | exact HB.out | apply below_alloc | apply pw_below_drewN | apply below_drew1) | exact HB.out))); rintro e w36 ⟨rfl, hb⟩; refine ⟨_, rfl, ?_⟩; have n0_ := Aside0.mk (below_step (by repeat (first | (with_reducible first | exact HB.out | apply below_alloc | apply pw_below_drewN | apply below_drew1) | exact HB.out)) hb); clear HB; have HB := n0_; clear n0_; (try clear hb); (try clear hb2); (try clear hk); (try clear hi)) | ((with_reducible refine gate_callee (f := 14) rfl ?_); refine goesL_ (some 30) rfl rfl Tryz.func14 (by kernel_rfl) rfl #[] rfl (by (try simp only [List.map_toArray, List.map_cons, List.map_nil]); first | done | rfl | (simp only [List.length_drop, List.length_take]; rfl)) ?_; (with_reducible refine (GV.known.calls  true _ ?side1 A6.out).mono ?_); (case side1 => exact gm_at HGM.out (by repeat (first | (with_reducible first | exact HB.out | apply below_alloc | apply pw_below_drewN | apply below_drew1) | exact HB.out))); rintro e w37 ⟨rfl, hb⟩; refine ⟨_, rfl, ?_⟩; have n0_ := Aside0.mk (below_step (by repeat (first | (with_reducible first | exact HB.out | apply below_alloc | apply pw_below_drewN | apply below_drew1) | exact HB.out)) hb); clear HB; have HB := n0_; clear n0_; (try clear hb); (try clear hb2); (try clear hk); (try clear hi)))
        go_ret
        exact ⟨by first | rfl | (simp [errW_none, errW_some] <;> rfl) | (simp [*, errW_none, errW_some] <;> rfl), by repeat (first | (with_reducible first | exact HB.out | apply below_alloc | apply pw_below_drewN | apply below_drew1) | exact HB.out)⟩
    · rw [if_neg c8] at H
      have c8b0 : (t197.toList == t200.toList) = false := beq_eq_false_iff_ne.mpr c8
      have c8b1 : (t197.toList != t200.toList) = true := bne_iff_ne.mpr c8
      obtain rfl := Option.some.inj H
      go_enter Tryz.func10, Tryz.ntmps10
      go_wp2_with (first | ((with_reducible refine gate_callee (f := 11) rfl ?_); refine goesL_ (some 12) rfl rfl Tryz.func11 (by kernel_rfl) rfl #[.string a0, .int .i64 3000] rfl (by (try simp only [List.map_toArray, List.map_cons, List.map_nil]); first | done | rfl | (simp only [List.length_drop, List.length_take]; rfl)) ?_; (with_reducible refine (PA.bulletinlaw15_short.calls a0 3000 t196 _ A2.out).mono ?_); rintro e w38 ⟨rfl, hb⟩; refine ⟨_, rfl, ?_⟩; have n0_ := Aside0.mk (below_step (by repeat (first | (with_reducible first | exact HB.out | apply below_alloc | apply pw_below_drewN | apply below_drew1) | exact HB.out)) hb); clear HB; have HB := n0_; clear n0_; (try clear hb); (try clear hb2); (try clear hk); (try clear hi)) | ((with_reducible refine gate_callee (f := 31) rfl ?_); refine goesL_ (some 15) rfl rfl Tryz.func31 (by kernel_rfl) rfl #[.string t196] rfl (by (try simp only [List.map_toArray, List.map_cons, List.map_nil]); first | done | rfl | (simp only [List.length_drop, List.length_take]; rfl)) ?_; (with_reducible refine (PC.article_FromLine.calls k t196 t197 t198 t199 _ ?side1 A3.out).mono ?_); (case side1 => exact gm_at HGM.out (by repeat (first | (with_reducible first | exact HB.out | apply below_alloc | apply pw_below_drewN | apply below_drew1) | exact HB.out))); rintro e w39 ⟨rfl, hb⟩; refine ⟨_, rfl, ?_⟩; have n0_ := Aside0.mk (below_step (by repeat (first | (with_reducible first | exact HB.out | apply below_alloc | apply pw_below_drewN | apply below_drew1) | exact HB.out)) hb); clear HB; have HB := n0_; clear n0_; (try clear hb); (try clear hb2); (try clear hk); (try clear hi)) | ((with_reducible refine gate_callee (f := 32) rfl ?_); refine goesL_ (some 21) rfl rfl Tryz.func32 (by kernel_rfl) rfl #[.string t196] rfl (by (try simp only [List.map_toArray, List.map_cons, List.map_nil]); first | done | rfl | (simp only [List.length_drop, List.length_take]; rfl)) ?_; (with_reducible refine (PA.bulletinref15_FromLine.calls k t196 t200 t201 t202 _ A4.out).mono ?_); rintro e w40 ⟨rfl, hb⟩; refine ⟨_, rfl, ?_⟩; have n0_ := Aside0.mk (below_step (by repeat (first | (with_reducible first | exact HB.out | apply below_alloc | apply pw_below_drewN | apply below_drew1) | exact HB.out)) hb); clear HB; have HB := n0_; clear n0_; (try clear hb); (try clear hb2); (try clear hk); (try clear hi)) | ((with_reducible refine gate_callee (f := 29) rfl ?_); refine goesL_ (some 27) rfl rfl Tryz.func29 (by kernel_rfl) rfl #[.string t197] rfl (by (try simp only [List.map_toArray, List.map_cons, List.map_nil]); first | done | rfl | (simp only [List.length_drop, List.length_take]; rfl)) ?_; (with_reducible refine (PC.article_ToLine.calls t197 t203 t204 _ ?side1 A5.out).mono ?_); (case side1 => exact gm_at HGM.out (by repeat (first | (with_reducible first | exact HB.out | apply below_alloc | apply pw_below_drewN | apply below_drew1) | exact HB.out))); rintro e w41 ⟨rfl, hb⟩; refine ⟨_, rfl, ?_⟩; have n0_ := Aside0.mk (below_step (by repeat (first | (with_reducible first | exact HB.out | apply below_alloc | apply pw_below_drewN | apply below_drew1) | exact HB.out)) hb); clear HB; have HB := n0_; clear n0_; (try clear hb); (try clear hb2); (try clear hk); (try clear hi)) | ((with_reducible refine gate_callee (f := 14) rfl ?_); refine goesL_ (some 30) rfl rfl Tryz.func14 (by kernel_rfl) rfl #[] rfl (by (try simp only [List.map_toArray, List.map_cons, List.map_nil]); first | done | rfl | (simp only [List.length_drop, List.length_take]; rfl)) ?_; (with_reducible refine (GV.known.calls  true _ ?side1 A6.out).mono ?_); (case side1 => exact gm_at HGM.out (by repeat (first | (with_reducible first | exact HB.out | apply below_alloc | apply pw_below_drewN | apply below_drew1) | exact HB.out))); rintro e w42 ⟨rfl, hb⟩; refine ⟨_, rfl, ?_⟩; have n0_ := Aside0.mk (below_step (by repeat (first | (with_reducible first | exact HB.out | apply below_alloc | apply pw_below_drewN | apply below_drew1) | exact HB.out)) hb); clear HB; have HB := n0_; clear n0_; (try clear hb); (try clear hb2); (try clear hk); (try clear hi)))
      go_ret
      exact ⟨by first | rfl | (simp [errW_none, errW_some] <;> rfl) | (simp [*, errW_none, errW_some] <;> rfl), by repeat (first | (with_reducible first | exact HB.out | apply below_alloc | apply pw_below_drewN | apply below_drew1) | exact HB.out)⟩
  · replace c7 := Bool.eq_false_iff.mpr c7
    subst c7
    have H1 : (some false) = some r := by rw [if_neg (show ¬ (false = true) by decide)] at H; exact H
    clear H
    have H := H1
    clear H1
    obtain rfl := Option.some.inj H
    go_enter Tryz.func10, Tryz.ntmps10
    go_wp2_with (first | ((with_reducible refine gate_callee (f := 11) rfl ?_); refine goesL_ (some 12) rfl rfl Tryz.func11 (by kernel_rfl) rfl #[.string a0, .int .i64 3000] rfl (by (try simp only [List.map_toArray, List.map_cons, List.map_nil]); first | done | rfl | (simp only [List.length_drop, List.length_take]; rfl)) ?_; (with_reducible refine (PA.bulletinlaw15_short.calls a0 3000 t196 _ A2.out).mono ?_); rintro e w43 ⟨rfl, hb⟩; refine ⟨_, rfl, ?_⟩; have n0_ := Aside0.mk (below_step (by repeat (first | (with_reducible first | exact HB.out | apply below_alloc | apply pw_below_drewN | apply below_drew1) | exact HB.out)) hb); clear HB; have HB := n0_; clear n0_; (try clear hb); (try clear hb2); (try clear hk); (try clear hi)) | ((with_reducible refine gate_callee (f := 31) rfl ?_); refine goesL_ (some 15) rfl rfl Tryz.func31 (by kernel_rfl) rfl #[.string t196] rfl (by (try simp only [List.map_toArray, List.map_cons, List.map_nil]); first | done | rfl | (simp only [List.length_drop, List.length_take]; rfl)) ?_; (with_reducible refine (PC.article_FromLine.calls k t196 t197 t198 t199 _ ?side1 A3.out).mono ?_); (case side1 => exact gm_at HGM.out (by repeat (first | (with_reducible first | exact HB.out | apply below_alloc | apply pw_below_drewN | apply below_drew1) | exact HB.out))); rintro e w44 ⟨rfl, hb⟩; refine ⟨_, rfl, ?_⟩; have n0_ := Aside0.mk (below_step (by repeat (first | (with_reducible first | exact HB.out | apply below_alloc | apply pw_below_drewN | apply below_drew1) | exact HB.out)) hb); clear HB; have HB := n0_; clear n0_; (try clear hb); (try clear hb2); (try clear hk); (try clear hi)) | ((with_reducible refine gate_callee (f := 32) rfl ?_); refine goesL_ (some 21) rfl rfl Tryz.func32 (by kernel_rfl) rfl #[.string t196] rfl (by (try simp only [List.map_toArray, List.map_cons, List.map_nil]); first | done | rfl | (simp only [List.length_drop, List.length_take]; rfl)) ?_; (with_reducible refine (PA.bulletinref15_FromLine.calls k t196 t200 t201 t202 _ A4.out).mono ?_); rintro e w45 ⟨rfl, hb⟩; refine ⟨_, rfl, ?_⟩; have n0_ := Aside0.mk (below_step (by repeat (first | (with_reducible first | exact HB.out | apply below_alloc | apply pw_below_drewN | apply below_drew1) | exact HB.out)) hb); clear HB; have HB := n0_; clear n0_; (try clear hb); (try clear hb2); (try clear hk); (try clear hi)) | ((with_reducible refine gate_callee (f := 29) rfl ?_); refine goesL_ (some 27) rfl rfl Tryz.func29 (by kernel_rfl) rfl #[.string t197] rfl (by (try simp only [List.map_toArray, List.map_cons, List.map_nil]); first | done | rfl | (simp only [List.length_drop, List.length_take]; rfl)) ?_; (with_reducible refine (PC.article_ToLine.calls t197 t203 t204 _ ?side1 A5.out).mono ?_); (case side1 => exact gm_at HGM.out (by repeat (first | (with_reducible first | exact HB.out | apply below_alloc | apply pw_below_drewN | apply below_drew1) | exact HB.out))); rintro e w46 ⟨rfl, hb⟩; refine ⟨_, rfl, ?_⟩; have n0_ := Aside0.mk (below_step (by repeat (first | (with_reducible first | exact HB.out | apply below_alloc | apply pw_below_drewN | apply below_drew1) | exact HB.out)) hb); clear HB; have HB := n0_; clear n0_; (try clear hb); (try clear hb2); (try clear hk); (try clear hi)) | ((with_reducible refine gate_callee (f := 14) rfl ?_); refine goesL_ (some 30) rfl rfl Tryz.func14 (by kernel_rfl) rfl #[] rfl (by (try simp only [List.map_toArray, List.map_cons, List.map_nil]); first | done | rfl | (simp only [List.length_drop, List.length_take]; rfl)) ?_; (with_reducible refine (GV.known.calls  false _ ?side1 A6.out).mono ?_); (case side1 => exact gm_at HGM.out (by repeat (first | (with_reducible first | exact HB.out | apply below_alloc | apply pw_below_drewN | apply below_drew1) | exact HB.out))); rintro e w47 ⟨rfl, hb⟩; refine ⟨_, rfl, ?_⟩; have n0_ := Aside0.mk (below_step (by repeat (first | (with_reducible first | exact HB.out | apply below_alloc | apply pw_below_drewN | apply below_drew1) | exact HB.out)) hb); clear HB; have HB := n0_; clear n0_; (try clear hb); (try clear hb2); (try clear hk); (try clear hi)))
    go_ret
    exact ⟨by first | rfl | (simp [errW_none, errW_some] <;> rfl) | (simp [*, errW_none, errW_some] <;> rfl), by repeat (first | (with_reducible first | exact HB.out | apply below_alloc | apply pw_below_drewN | apply below_drew1) | exact HB.out)⟩

/-- THE ONE PURE STATEMENT of bulletinlaw15_ArticleFromLine: yours. -/
def bulletinlaw15_ArticleFromLine.Pure : Prop := ∀ (a0 : ByteArray), a0.size ≤ 140737488351232 → ∃ k, bulletinlaw15_ArticleFromLine.f k a0 = some true
theorem bulletinlaw15_ArticleFromLine.walk (P : bulletinlaw15_ArticleFromLine.Pure) (a0 : ByteArray) (w : World) (hgm : Gm w) (w0 : a0.size ≤ 140737488351232) :
    Calls Tryz.prog 10 #[.string a0] w fun e w' => e = .returned (.bool true) ∧ Below w.heap.size w w' := by
  obtain ⟨k, h⟩ := P a0 w0
  refine (bulletinlaw15_ArticleFromLine.calls k a0 true w hgm h).mono ?_
  rintro e w' ⟨rfl, hd⟩
  exact ⟨rfl, hd⟩

end Go.Proofs.YtfeciafdioepiaaGreatDoor.PL
set_option linter.unusedVariables false
set_option linter.unusedSimpArgs false
/- The reference's ValidName as a function on lists. -/
namespace Go.Proofs.YtfeciafdioepiaaGreatDoor
open Go.RowKit Go.Proofs Go.Proofs.YtfeciafdioepiaaGreatDoorW.PrintWords Go.Proofs.YtfeciafdioepiaaGreatDoor.PA

theorem mn_nat (a b : Nat) : mn (a : Int) (b : Int) = ((min a b : Nat) : Int) := by unfold mn; split <;> omega
end Go.Proofs.YtfeciafdioepiaaGreatDoor

/- Plain: what the printed functions of the reference compute, for all large numbers of rounds: Words, Printable, Squeeze, Check, Fold. -/
namespace Go.Proofs.YtfeciafdioepiaaGreatDoor
open Go.RowKit Go.Proofs Go.Proofs.YtfeciafdioepiaaGreatDoorW.PrintWords Go.Proofs.YtfeciafdioepiaaGreatDoor.PA

/-- From some number of rounds on. -/
def Ev {α : Type} (f : Nat → Option α) (r : α) : Prop := ∃ K, ∀ k, K ≤ k → f k = some r
section
variable {α β : Type}
theorem Ev.const {o : Option α} {r : α} (h : o = some r) : Ev (fun _ => o) r := ⟨0, fun _ _ => h⟩
theorem Ev.bind {f : Nat → Option α} {g : Nat → α → Option β} {a : α} {r : β} (h : Ev f a) (k : Ev (fun n => g n a) r) : Ev (fun n => (f n).bind (g n)) r := by
  obtain ⟨K, h⟩ := h
  obtain ⟨K', k⟩ := k
  refine ⟨max K K', fun n hn => ?_⟩
  show (f n).bind (g n) = some r
  rw [h n (by omega), Option.bind_some]
  exact k n (by omega)
theorem Ev.ite_pos {c : Prop} [Decidable c] {f g : Nat → Option α} {r : α} (h : c) (k : Ev f r) : Ev (fun n => if c then f n else g n) r := by
  simpa [h] using k
theorem Ev.ite_neg {c : Prop} [Decidable c] {f g : Nat → Option α} {r : α} (h : ¬ c) (k : Ev g r) : Ev (fun n => if c then f n else g n) r := by
  simpa [h] using k
theorem Ev.next {f : Nat → Option α} {r : α} (h : Ev (fun n => f (n + 1)) r) : Ev f r := by
  obtain ⟨K, h⟩ := h
  refine ⟨K + 1, fun n hn => ?_⟩
  obtain ⟨m, rfl⟩ : ∃ m, n = m + 1 := ⟨n - 1, by omega⟩
  exact h m (by omega)
theorem Ev.same {f g : Nat → Option α} {r : α} (h : Ev g r) (e : ∀ n, f n = g n) : Ev f r := by
  obtain ⟨K, h⟩ := h
  exact ⟨K, fun n hn => (e n).trans (h n hn)⟩
theorem Ev.at_ {f : Nat → Option α} {r : α} (h : Ev f r) : ∃ k, f k = some r := by
  obtain ⟨K, h⟩ := h
  exact ⟨K, h K (Nat.le_refl _)⟩
end

theorem wrap_nat (i : Nat) (h : i < 100000000000000) : wrap64 ((i : Int) + 1) = ((i + 1 : Nat) : Int) := by unfold wrap64; omega

/-! ### Words -/
/-! ### Printable -/
/-! ### Squeeze -/
end Go.Proofs.YtfeciafdioepiaaGreatDoor

/- Plain: Check and Fold of the program. -/
namespace Go.Proofs.YtfeciafdioepiaaGreatDoor
open Go.RowKit Go.Proofs Go.Proofs.YtfeciafdioepiaaGreatDoorW.PrintWords Go.Proofs.YtfeciafdioepiaaGreatDoor.PA

end Go.Proofs.YtfeciafdioepiaaGreatDoor
set_option linter.unusedVariables false
set_option linter.unusedSimpArgs false
namespace Go.Proofs.YtfeciafdioepiaaGreatDoor
open Go.RowKit Go.Proofs Go.Proofs.YtfeciafdioepiaaGreatDoorW.PrintWords Go.Proofs.YtfeciafdioepiaaGreatDoorW.PrintMore Go.Proofs.YtfeciafdioepiaaGreatDoor.PA

/-- A text that is cut. -/
theorem shortF (l : List UInt8) (n : Nat) (hn : n ≤ 1000000) : bulletinlaw15_short.f (mkS l) (n : Int) = some (mkS (l.take n)) := by
  unfold bulletinlaw15_short.f
  rw [mkS_size, mn_nat l.length n, if_pos (by omega), if_pos (by omega), Int.toNat_natCast, extract_mk, mkS_toList, List.drop_zero, Nat.sub_zero]
  congr 2
  rw [Nat.min_comm, ← List.take_take, List.take_length]
end Go.Proofs.YtfeciafdioepiaaGreatDoor
set_option linter.unusedVariables false
set_option linter.unusedSimpArgs false
namespace Go.Proofs.YtfeciafdioepiaaGreatDoor
open Go.RowKit Go.Proofs Go.Proofs.YtfeciafdioepiaaGreatDoorW.PrintWords Go.Proofs.YtfeciafdioepiaaGreatDoorW.PrintMore Go.Proofs.YtfeciafdioepiaaGreatDoor.PA

/-! ### replacing -/
theorem replaceAll_miss {s old new : List UInt8} (h : Lib.index s old = -1) : Lib.replaceAll s old new = s := by
  unfold Lib.replaceAll Lib.replace
  split
  · rfl
  · have : Lib.replaceNum s old (-1) = 0 := by unfold Lib.replaceNum; rw [if_pos (.inl (by decide)), Lib.count_miss h]
    rw [this]; rfl
theorem replaceAll_hit {s old new : List UInt8} {i : Nat} (h0 : old ≠ []) (hne : old ≠ new) (h : Lib.index s old = i) : Lib.replaceAll s old new = s.take i ++ new ++ Lib.replaceAll (s.drop (i + old.length)) old new := by
  have hne' : (old == new) = false := by simpa using hne
  have hn : ∀ t : List UInt8, Lib.replaceAll t old new = Lib.replaceK old new (Lib.count t old) t := by
    intro t
    unfold Lib.replaceAll Lib.replace
    rw [hne']
    have : Lib.replaceNum t old (-1) = Lib.count t old := by unfold Lib.replaceNum; rw [if_pos (.inl (by decide))]
    rw [this]; rfl
  rw [hn, hn, Lib.count_hit h0 h, Nat.add_comm 1, Lib.replaceK_hit _ _ _ _ _ h]
/-- Every line feed becomes two bytes. -/
def wire1 (c : UInt8) : List UInt8 := if c = 10 then [13, 10] else [c]
def wireL (l : List UInt8) : List UInt8 := l.flatMap wire1
theorem wireL_plain (l : List UInt8) (h : ∀ c ∈ l, c ≠ 10) : wireL l = l := by
  induction l with
  | nil => rfl
  | cons c l ih =>
    have hc := h c (by simp)
    have := ih (fun d hd => h d (by simp [hd]))
    unfold wireL at this ⊢
    rw [List.flatMap_cons, this]
    unfold wire1
    rw [if_neg hc]; rfl
theorem wireL_app (a b : List UInt8) : wireL (a ++ b) = wireL a ++ wireL b := by unfold wireL; rw [List.flatMap_append]
theorem spanL_take (p : UInt8 → Bool) (l : List UInt8) : ∀ c ∈ l.take (spanL p l), p c = true := by
  induction l with
  | nil => intro c hc; simp at hc
  | cons d l ih =>
    intro c hc
    by_cases hd : p d = true
    · have e : spanL p (d :: l) = spanL p l + 1 := by simp [spanL, hd]
      rw [e, List.take_succ_cons] at hc
      rcases List.mem_cons.1 hc with rfl | hc
      · exact hd
      · exact ih c hc
    · have e : spanL p (d :: l) = 0 := by simp [spanL, hd]
      rw [e] at hc; simp at hc
theorem spanL_stop (p : UInt8 → Bool) (l : List UInt8) (h : spanL p l < l.length) : p l[spanL p l] = false := by
  induction l with
  | nil => simp at h
  | cons d l ih =>
    by_cases hd : p d = true
    · have e : spanL p (d :: l) = spanL p l + 1 := by simp [spanL, hd]
      simp only [e, List.getElem_cons_succ]
      exact ih (by rw [e] at h; simpa using h)
    · have e : spanL p (d :: l) = 0 := by simp [spanL, hd]
      simp only [e, List.getElem_cons_zero]
      simpa using hd
theorem replace_nl : ∀ (n : Nat) (l : List UInt8), l.length ≤ n → Lib.replaceAll l [10] [13, 10] = wireL l := by
  intro n
  induction n with
  | zero =>
    intro l hl
    have : l = [] := List.length_eq_zero_iff.1 (by omega)
    subst this
    rfl
  | succ n ih =>
    intro l hl
    have hix : Lib.index l [10] = if lineN l = l.length then -1 else (lineN l : Int) := by
      rw [Lib.index_one]; exact indexByte_span 10 l
    have hle := lineN_le l
    have hpl : ∀ c ∈ l.take (lineN l), c ≠ 10 := by
      intro c hc h
      have := spanL_take notNl l c hc
      rw [h] at this
      exact absurd this (by decide)
    by_cases h : lineN l = l.length
    · rw [if_pos h] at hix
      rw [replaceAll_miss hix, wireL_plain]
      rw [h, List.take_length] at hpl
      exact hpl
    · rw [if_neg h] at hix
      have hlt : lineN l < l.length := by omega
      rw [replaceAll_hit (by simp) (by decide) hix]
      have h10 : l[lineN l] = 10 := by
        have := spanL_stop notNl l hlt
        have h' : notNl l[lineN l] = false := this
        unfold notNl at h'
        simpa using h'
      have e : l = l.take (lineN l) ++ 10 :: l.drop (lineN l + 1) := by
        conv => lhs; rw [← List.take_append_drop (lineN l) l, List.drop_eq_getElem_cons hlt, h10]
      have e2 : ([10] : List UInt8).length = 1 := rfl
      rw [e2, ih _ (by rw [List.length_drop]; omega)]
      conv => rhs; rw [e, wireL_app, wireL_plain _ hpl]
      have e3 : wireL (10 :: l.drop (lineN l + 1)) = [13, 10] ++ wireL (l.drop (lineN l + 1)) := rfl
      rw [e3, List.append_assoc]
/-- Texts in which nothing but CR LF ends a line. -/
inductive Wire : List UInt8 → Prop
  | nil : Wire []
  | feed {r : List UInt8} (h : Wire r) : Wire (13 :: 10 :: r)
  | byte {c : UInt8} {r : List UInt8} (h1 : c ≠ 13) (h2 : c ≠ 10) (h : Wire r) : Wire (c :: r)
def unwire (l : List UInt8) : List UInt8 := l.filter (fun c => c != 13)
theorem wire_unwire {l : List UInt8} (h : Wire l) : wireL (unwire l) = l ∧ ∀ c ∈ unwire l, c ≠ 13 := by
  refine ⟨?_, fun c hc => by have := (List.mem_filter.1 hc).2; simpa using this⟩
  induction h with
  | nil => rfl
  | feed h ih =>
    rename_i r
    have e : unwire (13 :: 10 :: r) = 10 :: unwire r := by simp [unwire]
    rw [e]
    have e2 : wireL (10 :: unwire r) = [13, 10] ++ wireL (unwire r) := rfl
    rw [e2, ih]; rfl
  | byte h1 h2 h ih =>
    rename_i c r
    have e : unwire (c :: r) = c :: unwire r := by simp [unwire, h1]
    rw [e]
    have e2 : wireL (c :: unwire r) = wire1 c ++ wireL (unwire r) := rfl
    rw [e2, ih]; unfold wire1; rw [if_neg h2]; rfl
theorem index_cons_ne (c : UInt8) (l : List UInt8) (h : c ≠ 13) : Lib.index (c :: l) [13, 10] = if Lib.index l [13, 10] = -1 then -1 else Lib.index l [13, 10] + 1 := by
  have e : ([13, 10] : List UInt8).isPrefixOf (c :: l) = false := by
    simp [List.isPrefixOf]
    intro h'; exact absurd h'.symm h
  conv => lhs; unfold Lib.index
  rw [e]
  simp
theorem replace_crlf {l : List UInt8} (h : Wire l) : Lib.replaceAll l [13, 10] [10] = unwire l := by
  induction h with
  | nil => rfl
  | feed h ih =>
    rename_i r
    have hix : Lib.index (13 :: 10 :: r) [13, 10] = ((0 : Nat) : Int) := by
      unfold Lib.index
      rw [if_pos (by simp [List.isPrefixOf])]; rfl
    rw [replaceAll_hit (by simp) (by decide) hix]
    have e2 : ([13, 10] : List UInt8).length = 2 := rfl
    rw [e2]
    have e3 : (13 :: 10 :: r).drop (0 + 2) = r := rfl
    rw [e3, ih]
    simp [unwire]
  | byte h1 h2 h ih =>
    rename_i c r
    have e : unwire (c :: r) = c :: unwire r := by simp [unwire, h1]
    rw [e, ← ih]
    have hge := Lib.index_ge r [13, 10]
    have hix := index_cons_ne c r h1
    by_cases hm : Lib.index r [13, 10] = -1
    · rw [if_pos hm] at hix
      rw [replaceAll_miss hix, replaceAll_miss hm]
    · rw [if_neg hm] at hix
      obtain ⟨i, hi⟩ : ∃ i : Nat, Lib.index r [13, 10] = i := ⟨(Lib.index r [13, 10]).toNat, by omega⟩
      rw [hi] at hix
      rw [replaceAll_hit (i := i + 1) (by simp) (by decide) hix, replaceAll_hit (i := i) (by simp) (by decide) hi]
      have e2 : ([13, 10] : List UInt8).length = 2 := rfl
      rw [e2, show i + 1 + 2 = (i + 2) + 1 by omega, List.drop_succ_cons, List.take_succ_cons]
      rfl
/-- The first offset at which a text breaks the rule; p: is a CR ahead. -/
def wireE (p : Bool) (i : Nat) : List UInt8 → Option Nat
  | [] => none
  | c :: r => if c = 13 then (if r.head? = some 10 then wireE true (i + 1) r else some i) else if c = 10 then (if p = true then wireE false (i + 1) r else some i) else wireE false (i + 1) r
theorem wireE_none : ∀ (n : Nat) (l : List UInt8) (i : Nat), l.length ≤ n → wireE false i l = none → Wire l := by
  intro n
  induction n with
  | zero =>
    intro l i hl _
    have : l = [] := List.length_eq_zero_iff.1 (by omega)
    subst this
    exact .nil
  | succ n ih =>
    intro l i hl h
    cases l with
    | nil => exact .nil
    | cons c r =>
      simp only [wireE] at h
      by_cases h13 : c = 13
      · rw [if_pos h13] at h
        subst h13
        split at h
        · rename_i hh
          cases r with
          | nil => simp at hh
          | cons d r =>
            simp at hh
            subst hh
            simp only [wireE] at h
            rw [if_neg (by decide), if_pos (by decide), if_pos (by decide)] at h
            exact .feed (ih r _ (by simp at hl; omega) h)
        · cases h
      · rw [if_neg h13] at h
        by_cases h10 : c = 10
        · rw [if_pos h10] at h; simp at h
        · rw [if_neg h10] at h
          exact .byte h13 h10 (ih r _ (by simp at hl; omega) h)
/-- What FromLine answers. -/
def fromL (l : List UInt8) : ByteArray × Int × Int :=
  if 131072 < l.length then (⟨#[]⟩, 131072, 5)
  else match wireE false 0 l with
    | some p => (⟨#[]⟩, (p : Int), 3)
    | none => if l ≠ [] ∧ l.getLast? ≠ some 10 then (⟨#[]⟩, (l.length : Int), 4) else if 65536 < (unwire l).length then (⟨#[]⟩, 0, 5) else (mkS (unwire l), 0, 0)
/-- What ToLine answers. -/
def toL (l : List UInt8) : ByteArray × Int :=
  if 65536 < l.length then (⟨#[]⟩, 5) else if (13 : UInt8) ∈ l then (⟨#[]⟩, 6) else if l ≠ [] ∧ l.getLast? ≠ some 10 then (⟨#[]⟩, 4) else (mkS (wireL l), 0)

/-! ### the program -/
theorem suffixF (l p : List UInt8) (h : l.length ≤ 900000) (hp : p.length ≤ 1000) : strings_HasSuffix.f (mkS l) (mkS p) = some (decide (p.length ≤ l.length ∧ l.drop (l.length - p.length) = p)) := by
  unfold strings_HasSuffix.f stringslite_HasSuffix.f
  simp only [mkS_size]
  by_cases h1 : p.length ≤ l.length
  · have hw : wrap64 ((l.length : Int) - (p.length : Int)) = ((l.length - p.length : Nat) : Int) := by
      rw [show ((l.length : Int) - (p.length : Int)) = ((l.length - p.length : Nat) : Int) by omega, wrap64_small (by omega) (by omega)]
    rw [hw, if_pos (by omega), if_pos (by omega), if_pos (by omega), Int.toNat_natCast, extract_mk, mkS_toList, toList_mk, toList_mk, List.take_of_length_le (by rw [List.length_drop]; omega)]
    simp only [Option.bind_some]
    congr 1
    by_cases h2 : l.drop (l.length - p.length) = p
    · simp [h1, h2]
    · simp [h2]
  · rw [if_neg (by omega)]
    simp [h1]
theorem prefixF (l p : List UInt8) (h : l.length ≤ 900000) (hp : p.length ≤ 1000) : strings_HasPrefix.f (mkS l) (mkS p) = some (decide (p.length ≤ l.length ∧ l.take p.length = p)) := by
  unfold strings_HasPrefix.f stringslite_HasPrefix.f
  simp only [mkS_size]
  by_cases h1 : p.length ≤ l.length
  · rw [if_pos (by omega), if_pos (by omega), if_pos (by omega), Int.toNat_natCast, extract_mk, mkS_toList, toList_mk, toList_mk, List.drop_zero, Nat.sub_zero]
    simp only [Option.bind_some]
    congr 1
    by_cases h2 : l.take p.length = p
    · simp [h1, h2]
    · simp [h2]
  · rw [if_neg (by omega)]
    simp [h1]
theorem last_ten (l : List UInt8) (h0 : l ≠ []) : (1 ≤ l.length ∧ l.drop (l.length - 1) = [10]) ↔ l.getLast? = some 10 := by
  obtain ⟨a, c, rfl⟩ : ∃ a c, l = a ++ [c] := ⟨l.dropLast, l.getLast h0, (List.dropLast_concat_getLast h0).symm⟩
  simp
theorem hasCr (l : List UInt8) : (0 ≤ Lib.indexByte l 13) ↔ (13 : UInt8) ∈ l := by
  have h := indexByte_span 13 l
  have hle := spanL_le (fun b => !(b == 13)) l
  by_cases hs : spanL (fun b => !(b == 13)) l = l.length
  · rw [if_pos hs] at h
    rw [h]
    constructor
    · intro h'; omega
    · intro hm
      have := spanL_take (fun b => !(b == 13)) l 13 (by rw [hs, List.take_length]; exact hm)
      simp at this
  · rw [if_neg hs] at h
    rw [h]
    constructor
    · intro _
      have hlt : spanL (fun b => !(b == 13)) l < l.length := by omega
      have := spanL_stop (fun b => !(b == 13)) l hlt
      have h13 : l[spanL (fun b => !(b == 13)) l] = 13 := by simpa using this
      rw [← h13]; exact List.getElem_mem hlt
    · intro _; omega
theorem replF (l old new : List UInt8) (h : l.length ≤ 900000) (h1 : 1 ≤ old.length) (h2 : new.length ≤ 1000) : GV.ReplaceAll.f (mkS l) (mkS old) (mkS new) = some (mkS (Lib.replaceAll l old new)) := by
  unfold GV.ReplaceAll.f
  rw [if_pos ⟨by rw [mkS_size]; omega, by rw [mkS_size]; omega, by rw [mkS_size]; omega⟩, mkS_toList, mkS_toList, mkS_toList]
theorem toLineF (l : List UInt8) (hl : l.length ≤ 900000) : PC.article_ToLine.f (mkS l) = some (toL l) := by
  unfold PC.article_ToLine.f toL
  simp only [mkS_size]
  have e13 : (⟨#[13]⟩ : ByteArray) = mkS [13] := rfl
  have e10 : (⟨#[10]⟩ : ByteArray) = mkS [10] := rfl
  have e1310 : (⟨#[13, 10]⟩ : ByteArray) = mkS [13, 10] := rfl
  by_cases h6 : 65536 < l.length
  · rw [if_pos (by omega), if_pos h6]
  · rw [if_neg (by omega), if_neg h6]
    unfold GV.Contains.f
    rw [if_pos rfl, mkS_toList]
    simp only [Option.bind_some]
    by_cases hc : (13 : UInt8) ∈ l
    · rw [if_pos (by simpa using (hasCr l).2 hc), if_pos hc]
    · rw [if_neg (by simpa using fun h => hc ((hasCr l).1 h)), if_neg hc, toList_mk, e10, e1310]
      rw [replF l [10] [13, 10] hl (by simp) (by simp), replace_nl _ l (Nat.le_refl _)]
      by_cases h0 : l = []
      · rw [if_pos h0, if_neg (by simp [h0])]; rfl
      · rw [if_neg h0, suffixF l [10] hl (by simp)]
        simp only [Option.bind_some]
        have hlt := last_ten l h0
        have e1 : ([10] : List UInt8).length = 1 := rfl
        rw [e1]
        by_cases hx : l.getLast? = some 10
        · rw [if_pos (decide_eq_true (hlt.2 hx)), if_neg (by simp [hx])]
        · rw [if_neg (by rw [decide_eq_true_iff]; exact fun h => hx (hlt.1 h)), if_pos ⟨h0, hx⟩]
theorem ahead_last (l : List UInt8) (i : Nat) (hi : i < l.length) : (2 ≤ (l.take (i + 1)).length ∧ (l.take (i + 1)).drop ((l.take (i + 1)).length - 2) = [13, 10]) ↔ (0 < i ∧ l[i - 1]? = some 13 ∧ l[i] = 10) := by
  have hlen : (l.take (i + 1)).length = i + 1 := by rw [List.length_take]; omega
  rw [hlen]
  constructor
  · rintro ⟨h1, h2⟩
    have h0 : 0 < i := by omega
    have ha : (l.take (i + 1)).drop (i + 1 - 2) = [l[i - 1], l[i]] := by
      have e1 : (l.take (i + 1)) = l.take (i - 1) ++ [l[i - 1], l[i]] := by
        rw [List.take_succ_eq_append_getElem hi]
        have := List.take_succ_eq_append_getElem (l := l) (i := i - 1) (by omega)
        rw [show i - 1 + 1 = i by omega] at this
        rw [this, List.append_assoc]; rfl
      rw [e1, List.drop_append_of_le_length (by rw [List.length_take]; omega), List.drop_eq_nil_of_le (by rw [List.length_take]; omega)]
      rfl
    rw [ha] at h2
    injection h2 with h2 h3
    injection h3 with h3
    exact ⟨h0, by rw [List.getElem?_eq_getElem (by omega), h2], h3⟩
  · rintro ⟨h0, h1, h2⟩
    refine ⟨by omega, ?_⟩
    have e1 : (l.take (i + 1)) = l.take (i - 1) ++ [l[i - 1], l[i]] := by
      rw [List.take_succ_eq_append_getElem hi]
      have := List.take_succ_eq_append_getElem (l := l) (i := i - 1) (by omega)
      rw [show i - 1 + 1 = i by omega] at this
      rw [this, List.append_assoc]; rfl
    rw [List.getElem?_eq_getElem (by omega)] at h1
    injection h1 with h1
    rw [e1, List.drop_append_of_le_length (by rw [List.length_take]; omega), List.drop_eq_nil_of_le (by rw [List.length_take]; omega), h1, h2]
    rfl
theorem byte13 (c : UInt8) : ((c.toNat : Int) = 13) ↔ c = 13 := toNat_int c 13 (by omega)
theorem byteTen (c : UInt8) : ((c.toNat : Int) = 10) ↔ c = 10 := toNat_int c 10 (by omega)
def prev13 (l : List UInt8) (i : Nat) : Bool := decide (0 < i ∧ l[i - 1]? = some 13)
theorem prev13_succ (l : List UInt8) (i : Nat) (h : i < l.length) : prev13 l (i + 1) = decide (l[i] = 13) := by
  unfold prev13
  rw [Nat.add_sub_cancel, List.getElem?_eq_getElem h]
  simp
theorem wireE_step (l : List UInt8) (i : Nat) (h : i < l.length) : wireE (prev13 l i) i (l.drop i) = if l[i] = 13 then (if l[i + 1]? = some 10 then wireE (prev13 l (i + 1)) (i + 1) (l.drop (i + 1)) else some i) else if l[i] = 10 then (if prev13 l i = true then wireE (prev13 l (i + 1)) (i + 1) (l.drop (i + 1)) else some i) else wireE (prev13 l (i + 1)) (i + 1) (l.drop (i + 1)) := by
  rw [List.drop_eq_getElem_cons h, prev13_succ l i h]
  simp only [wireE]
  have e : (l.drop (i + 1)).head? = l[i + 1]? := by rw [List.head?_drop]
  rw [e]
  by_cases h13 : l[i] = 13
  · rw [if_pos h13, if_pos h13]; simp [h13]
  · rw [if_neg h13, if_neg h13]; simp [h13]
/-- What FromLine answers behind its rounds. -/
def fromE (l : List UInt8) : ByteArray × Int × Int := if l ≠ [] ∧ l.getLast? ≠ some 10 then (⟨#[]⟩, (l.length : Int), 4) else if 65536 < (unwire l).length then (⟨#[]⟩, 0, 5) else (mkS (unwire l), 0, 0)
theorem fromLine_end (l : List UInt8) (hl : l.length ≤ 900000) (hW : Wire l) (b : Bool) (hb : b = decide (l ≠ [] ∧ l.getLast? ≠ some 10)) : Ev (fun k => PC.article_FromLine.j2 k (mkS l) b) (fromE l) := by
  have e10 : (⟨#[10]⟩ : ByteArray) = mkS [10] := rfl
  have e1310 : (⟨#[13, 10]⟩ : ByteArray) = mkS [13, 10] := rfl
  refine Ev.next ?_
  simp only [PC.article_FromLine.j2]
  unfold fromE
  by_cases h : l ≠ [] ∧ l.getLast? ≠ some 10
  · rw [if_pos h]
    refine Ev.ite_pos (by rw [hb]; exact decide_eq_true h) (Ev.const ?_)
    rw [mkS_size]
  · rw [if_neg h]
    refine Ev.ite_neg (by rw [hb]; simpa using h) ?_
    rw [e10, e1310, replF l [13, 10] [10] hl (by simp) (by simp), replace_crlf hW]
    simp only [Option.bind_some, mkS_size]
    by_cases h6 : 65536 < (unwire l).length
    · rw [if_pos h6]; exact Ev.ite_pos (by omega) (Ev.const rfl)
    · rw [if_neg h6]; exact Ev.ite_neg (by omega) (Ev.const rfl)
theorem fromLine_loop (l : List UInt8) (hl : l.length ≤ 900000) : ∀ d i : Nat, l.length - i = d → i ≤ l.length → (wireE (prev13 l i) i (l.drop i) = none → Wire l) →
    Ev (fun k => PC.article_FromLine.l0 k (mkS l) (l.length : Int) (i : Int)) (match wireE (prev13 l i) i (l.drop i) with | some p => (⟨#[]⟩, (p : Int), 3) | none => fromE l) := by
  have e10 : (⟨#[10]⟩ : ByteArray) = mkS [10] := rfl
  have e1310 : (⟨#[13, 10]⟩ : ByteArray) = mkS [13, 10] := rfl
  intro d
  induction d with
  | zero =>
    intro i hd hi hW
    have h0 : l.drop i = [] := List.drop_eq_nil_of_le (by omega)
    rw [h0] at hW ⊢
    have hW' := hW rfl
    refine Ev.next ?_
    simp only [PC.article_FromLine.l0]
    refine Ev.ite_neg (by omega) ?_
    rw [toList_mk]
    show Ev _ (fromE l)
    by_cases hn : l = []
    · exact Ev.ite_pos hn (fromLine_end l hl hW' false (by simp [hn]))
    · refine Ev.ite_neg hn ?_
      rw [e10, suffixF l [10] hl (by simp)]
      simp only [Option.bind_some]
      refine fromLine_end l hl hW' _ ?_
      have hlt := last_ten l hn
      have e1 : ([10] : List UInt8).length = 1 := rfl
      rw [e1]
      by_cases hx : l.getLast? = some 10
      · rw [decide_eq_true (hlt.2 hx)]; simp [hx]
      · rw [decide_eq_false (fun h => hx (hlt.1 h))]; simp [hx, hn]
  | succ d ih =>
    intro i hd hi hW
    have hlt : i < l.length := by omega
    rw [wireE_step l i hlt] at hW ⊢
    have hnext := ih (i + 1) (by omega) (by omega)
    have ext1 : (mkS l).extract ((i : Int)).toNat (mkS l).size = mkS (l.drop i) := by
      rw [Int.toNat_natCast, extract_mk, mkS_toList, mkS_size, List.take_of_length_le]; rw [List.length_drop]; omega
    refine Ev.next ?_
    simp only [PC.article_FromLine.l0]
    rw [bt_mk l i hlt, ext1]
    refine Ev.ite_pos (by omega) (Ev.ite_pos (by omega) (Ev.ite_pos (by rw [mkS_size]; omega) ?_))
    have jb : ∀ R : ByteArray × Int × Int, R = (⟨#[]⟩, (i : Int), 3) → Ev (fun k => PC.article_FromLine.j1 k (mkS l) (i : Int) (l.length : Int) (i : Int) true) R := by
      intro R hR
      refine Ev.next ?_
      simp only [PC.article_FromLine.j1]
      exact Ev.ite_pos (by simp) (Ev.const (by rw [hR]))
    by_cases h13 : l[i] = 13
    · rw [if_pos h13] at hW ⊢
      refine Ev.ite_pos ((byte13 _).2 h13) (Ev.ite_pos (by rw [mkS_size]; omega) ?_)
      rw [e1310, prefixF (l.drop i) [13, 10] (by rw [List.length_drop]; omega) (by simp)]
      simp only [Option.bind_some]
      have e2 : ([13, 10] : List UInt8).length = 2 := rfl
      rw [e2]
      have hiff : (2 ≤ (l.drop i).length ∧ (l.drop i).take 2 = [13, 10]) ↔ l[i + 1]? = some 10 := by
        rw [List.drop_eq_getElem_cons hlt, h13]
        cases hdr : l.drop (i + 1) with
        | nil =>
          have : l[i + 1]? = none := by rw [← List.head?_drop, hdr]; rfl
          rw [this]; simp
        | cons x r =>
          have : l[i + 1]? = some x := by rw [← List.head?_drop, hdr]; rfl
          rw [this]; simp
      by_cases h10 : l[i + 1]? = some 10
      · rw [if_pos h10] at hW ⊢
        rw [decide_eq_true (hiff.2 h10)]
        refine Ev.next ?_
        simp only [PC.article_FromLine.j1]
        refine Ev.ite_neg (by simp) (Ev.ite_pos (by omega) (Ev.ite_pos (by rw [mkS_size]; omega) ?_))
        rw [bt_mk l i hlt, wrap_nat i (by omega)]
        refine Ev.ite_neg (fun h => ?_) (hnext hW)
        have := (byteTen _).1 h
        rw [h13] at this
        exact absurd this (by decide)
      · rw [if_neg h10]
        rw [decide_eq_false (fun h => h10 (hiff.1 h))]
        exact jb _ rfl
    · rw [if_neg h13] at hW ⊢
      refine Ev.ite_neg (fun h => h13 ((byte13 _).1 h)) ?_
      refine Ev.next ?_
      simp only [PC.article_FromLine.j1]
      refine Ev.ite_neg (by simp) (Ev.ite_pos (by omega) (Ev.ite_pos (by rw [mkS_size]; omega) ?_))
      rw [bt_mk l i hlt, wrap_nat i (by omega)]
      by_cases h10 : l[i] = 10
      · rw [if_pos h10] at hW ⊢
        refine Ev.ite_pos ((byteTen _).2 h10) (Ev.ite_pos (by omega) (Ev.ite_pos (by rw [mkS_size]; omega) ?_))
        have ext2 : (mkS l).extract 0 (((i + 1 : Nat) : Int)).toNat = mkS (l.take (i + 1)) := by
          rw [Int.toNat_natCast, extract_mk, mkS_toList]; rfl
        rw [ext2, e1310, suffixF (l.take (i + 1)) [13, 10] (by rw [List.length_take]; omega) (by simp)]
        simp only [Option.bind_some]
        have e2 : ([13, 10] : List UInt8).length = 2 := rfl
        rw [e2]
        have hiff := ahead_last l i hlt
        by_cases hp : prev13 l i = true
        · rw [if_pos hp] at hW ⊢
          have hp' : 0 < i ∧ l[i - 1]? = some 13 := by unfold prev13 at hp; simpa using hp
          exact Ev.ite_pos (decide_eq_true (hiff.2 ⟨hp'.1, hp'.2, h10⟩)) (hnext hW)
        · rw [if_neg hp]
          refine Ev.ite_neg (fun h => hp ?_) (Ev.const rfl)
          have := hiff.1 (of_decide_eq_true h)
          unfold prev13
          exact decide_eq_true ⟨this.1, this.2.1⟩
      · rw [if_neg h10] at hW ⊢
        exact Ev.ite_neg (fun h => h10 ((byteTen _).1 h)) (hnext hW)
theorem fromLineF (l : List UInt8) (hl : l.length ≤ 900000) : Ev (fun k => PC.article_FromLine.f k (mkS l)) (fromL l) := by
  unfold PC.article_FromLine.f fromL
  rw [mkS_size]
  by_cases h : 131072 < l.length
  · rw [if_pos h]; exact Ev.ite_pos (by omega) (Ev.const rfl)
  · rw [if_neg h]
    refine Ev.ite_neg (by omega) ?_
    have hp : prev13 l 0 = false := by unfold prev13; simp
    have := fromLine_loop l hl _ 0 rfl (by omega) (by rw [hp, List.drop_zero]; exact wireE_none _ l 0 (Nat.le_refl _))
    rw [hp, List.drop_zero] at this
    exact this
end Go.Proofs.YtfeciafdioepiaaGreatDoor
set_option linter.unusedVariables false
set_option linter.unusedSimpArgs false
namespace Go.Proofs.YtfeciafdioepiaaGreatDoor
open Go.RowKit Go.Proofs Go.Proofs.YtfeciafdioepiaaGreatDoorW.PrintWords Go.Proofs.YtfeciafdioepiaaGreatDoorW.PrintMore Go.Proofs.YtfeciafdioepiaaGreatDoor.PA

def numsL (l : List UInt8) : List Int := l.map fun c => (c.toNat : Int)
theorem strOf_nums (l : List UInt8) : strOfNums (numsL l) = mkS l := by
  unfold strOfNums numsL mkS
  rw [List.map_map]
  have : l.map ((fun n : Int => UInt8.ofNat n.toNat) ∘ fun c : UInt8 => (c.toNat : Int)) = l := by
    conv => rhs; rw [← List.map_id l]
    apply List.map_congr_left
    intro c _
    simp
  rw [this]
theorem numsL_app (a b : List UInt8) : numsL (a ++ b) = numsL a ++ numsL b := by unfold numsL; rw [List.map_append]
theorem numsL_len (l : List UInt8) : (numsL l).length = l.length := by unfold numsL; rw [List.length_map]
theorem take_snoc (l : List UInt8) (i : Nat) (h : i < l.length) : l.take (i + 1) = l.take i ++ [l[i]] := List.take_succ_eq_append_getElem h
theorem last_at (l : List UInt8) (h : l ≠ []) : l.getLast? = some (l[l.length - 1]'(by have := List.length_pos_iff.2 h; omega)) := by
  rw [List.getLast?_eq_getElem?, List.getElem?_eq_getElem]
theorem unwire_app (a b : List UInt8) : unwire (a ++ b) = unwire a ++ unwire b := by unfold unwire; rw [List.filter_append]
theorem unwire_len (l : List UInt8) : (unwire l).length ≤ l.length := List.length_filter_le ..
theorem refFrom_end (l : List UInt8) (hl : l.length ≤ 900000) (b : Bool) (hb : b = decide (l ≠ [] ∧ l.getLast? ≠ some 10)) : Ev (fun k => bulletinref15_FromLine.j2 k (mkS l) (numsL (unwire l)) b) (fromE l) := by
  refine Ev.next ?_
  simp only [bulletinref15_FromLine.j2, mkS_size]
  unfold fromE
  rw [strOf_nums, numsL_len]
  by_cases h : l ≠ [] ∧ l.getLast? ≠ some 10
  · rw [if_pos h]
    exact Ev.ite_pos (by rw [hb]; exact decide_eq_true h) (Ev.const rfl)
  · rw [if_neg h]
    refine Ev.ite_neg (by rw [hb]; simpa using h) ?_
    by_cases h6 : 65536 < (unwire l).length
    · rw [if_pos h6]; exact Ev.ite_pos (by omega) (Ev.const rfl)
    · rw [if_neg h6]; exact Ev.ite_neg (by omega) (Ev.const rfl)
theorem refFromLine_loop (l : List UInt8) (hl : l.length ≤ 900000) : ∀ d i : Nat, l.length - i = d → i ≤ l.length →
    Ev (fun k => bulletinref15_FromLine.l0 k (mkS l) (numsL (unwire (l.take i))) (i : Int)) (match wireE (prev13 l i) i (l.drop i) with | some p => (⟨#[]⟩, (p : Int), 3) | none => fromE l) := by
  intro d
  induction d with
  | zero =>
    intro i hd hi
    have h0 : l.drop i = [] := List.drop_eq_nil_of_le (by omega)
    have ht : l.take i = l := List.take_of_length_le (by omega)
    rw [h0, ht]
    refine Ev.next ?_
    simp only [bulletinref15_FromLine.l0, mkS_size, toList_mk]
    refine Ev.ite_neg (by omega) ?_
    show Ev _ (fromE l)
    by_cases hn : l = []
    · exact Ev.ite_pos hn (refFrom_end l hl false (by simp [hn]))
    · have hp := List.length_pos_iff.2 hn
      have hw : wrap64 ((l.length : Int) - 1) = ((l.length - 1 : Nat) : Int) := by
        rw [show (l.length : Int) - 1 = ((l.length - 1 : Nat) : Int) by omega, wrap64_small (by omega) (by omega)]
      rw [hw, bt_mk l _ (by omega)]
      refine Ev.ite_neg hn (Ev.ite_pos (by omega) (Ev.ite_pos (by omega) (refFrom_end l hl _ ?_)))
      rw [last_at l hn]
      by_cases h10 : l[l.length - 1] = 10
      · have : (l[l.length - 1].toNat : Int) = 10 := (byteTen _).2 h10
        rw [this]; simp [h10]
      · have : ¬ (l[l.length - 1].toNat : Int) = 10 := fun h => h10 ((byteTen _).1 h)
        simp [this, h10, hn]
  | succ d ih =>
    intro i hd hi
    have hlt : i < l.length := by omega
    rw [wireE_step l i hlt]
    have hul := unwire_len (l.take i)
    have htl : (l.take i).length = i := by rw [List.length_take]; omega
    rw [htl] at hul
    have hnext := ih (i + 1) (by omega) (by omega)
    rw [take_snoc l i hlt, unwire_app, numsL_app] at hnext
    have jb : ∀ R : ByteArray × Int × Int, R = (⟨#[]⟩, (i : Int), 3) → Ev (fun k => bulletinref15_FromLine.j1 k (mkS l) (numsL (unwire (l.take i))) (i : Int) true) R := by
      intro R hR
      refine Ev.next ?_
      simp only [bulletinref15_FromLine.j1]
      exact Ev.ite_pos (by simp) (Ev.const (by rw [hR]))
    have jn : ∀ R : ByteArray × Int × Int, R = (match wireE (prev13 l (i + 1)) (i + 1) (l.drop (i + 1)) with | some p => (⟨#[]⟩, (p : Int), 3) | none => fromE l) → Ev (fun k => bulletinref15_FromLine.j1 k (mkS l) (numsL (unwire (l.take i))) (i : Int) false) R := by
      intro R hR
      rw [hR]
      refine Ev.next ?_
      simp only [bulletinref15_FromLine.j1, mkS_size]
      rw [bt_mk l i hlt, wrap_nat i (by omega)]
      refine Ev.ite_neg (by simp) (Ev.ite_pos (by omega) (Ev.ite_pos (by omega) ?_))
      by_cases h13 : l[i] = 13
      · refine Ev.ite_pos ((byte13 _).2 h13) ?_
        have e : numsL (unwire [l[i]]) = [] := by rw [h13]; rfl
        rw [e, List.append_nil] at hnext
        exact hnext
      · refine Ev.ite_neg (fun h => h13 ((byte13 _).1 h)) (Ev.ite_pos (by rw [numsL_len]; omega) ?_)
        have e : numsL (unwire [l[i]]) = [(l[i].toNat : Int)] := by
          have : unwire [l[i]] = [l[i]] := by simp [unwire, h13]
          rw [this]; rfl
        rw [e] at hnext
        exact hnext
    refine Ev.next ?_
    simp only [bulletinref15_FromLine.l0, mkS_size]
    rw [bt_mk l i hlt, wrap_nat i (by omega)]
    refine Ev.ite_pos (by omega) (Ev.ite_pos (by omega) ?_)
    by_cases h13 : l[i] = 13
    · rw [if_pos h13]
      refine Ev.ite_pos ((byte13 _).2 h13) ?_
      by_cases hend : i + 1 = l.length
      · have hno : l[i + 1]? = none := List.getElem?_eq_none (by omega)
        rw [hno, if_neg (by simp)]
        exact Ev.ite_pos (by omega) (jb _ rfl)
      · have hlt2 : i + 1 < l.length := by omega
        rw [bt_mk l (i + 1) hlt2, List.getElem?_eq_getElem hlt2]
        refine Ev.ite_neg (by omega) (Ev.ite_pos (by omega) (Ev.ite_pos (by omega) ?_))
        by_cases h10 : l[i + 1] = 10
        · rw [if_pos (by rw [h10])]
          refine Ev.ite_pos ((byteTen _).2 h10) (Ev.ite_neg (fun h => ?_) (jn _ rfl))
          have := (byteTen _).1 h
          rw [h13] at this
          exact absurd this (by decide)
        · rw [if_neg (by simpa using h10)]
          exact Ev.ite_neg (fun h => h10 ((byteTen _).1 h)) (jb _ rfl)
    · rw [if_neg h13]
      refine Ev.ite_neg (fun h => h13 ((byte13 _).1 h)) ?_
      by_cases h10 : l[i] = 10
      · rw [if_pos h10]
        refine Ev.ite_pos ((byteTen _).2 h10) ?_
        by_cases h0 : i = 0
        · have hp : prev13 l i = false := by unfold prev13; simp [h0]
          rw [hp, if_neg (by simp)]
          exact Ev.ite_pos (by omega) (jb _ rfl)
        · have hw : wrap64 ((i : Int) - 1) = ((i - 1 : Nat) : Int) := by
            rw [show (i : Int) - 1 = ((i - 1 : Nat) : Int) by omega, wrap64_small (by omega) (by omega)]
          rw [hw, bt_mk l (i - 1) (by omega)]
          refine Ev.ite_neg (by omega) (Ev.ite_pos (by omega) (Ev.ite_pos (by omega) ?_))
          have hpe : prev13 l i = decide (l[i - 1] = 13) := by
            unfold prev13
            rw [List.getElem?_eq_getElem (by omega)]
            simp; omega
          rw [hpe]
          by_cases h1 : l[i - 1] = 13
          · have hb : ((l[i - 1].toNat : Int) != 13) = false := by rw [(byte13 _).2 h1]; rfl
            rw [hb, if_pos (decide_eq_true h1)]
            exact jn _ rfl
          · have hb : ((l[i - 1].toNat : Int) != 13) = true := by rw [bne_iff_ne]; exact fun h => h1 ((byte13 _).1 h)
            rw [hb, if_neg (by simpa using h1)]
            exact jb _ rfl
      · rw [if_neg h10]
        exact Ev.ite_neg (fun h => h10 ((byteTen _).1 h)) (jn _ rfl)
theorem refFromLineF (l : List UInt8) (hl : l.length ≤ 900000) : Ev (fun k => bulletinref15_FromLine.f k (mkS l)) (fromL l) := by
  unfold bulletinref15_FromLine.f fromL
  rw [mkS_size]
  by_cases h : 131072 < l.length
  · rw [if_pos h]; exact Ev.ite_pos (by omega) (Ev.const rfl)
  · rw [if_neg h]
    refine Ev.ite_neg (by omega) ?_
    have hp : prev13 l 0 = false := by unfold prev13; simp
    have := refFromLine_loop l hl _ 0 rfl (by omega)
    rw [hp, List.drop_zero] at this
    exact this
end Go.Proofs.YtfeciafdioepiaaGreatDoor
set_option linter.unusedVariables false
set_option linter.unusedSimpArgs false
namespace Go.Proofs.YtfeciafdioepiaaGreatDoor
open Go.RowKit Go.Proofs Go.Proofs.YtfeciafdioepiaaGreatDoorW.PrintWords Go.Proofs.YtfeciafdioepiaaGreatDoorW.PrintMore Go.Proofs.YtfeciafdioepiaaGreatDoor.PA
theorem unwire_last {l : List UInt8} (h0 : l ≠ []) (h : l.getLast? = some 10) : unwire l ≠ [] ∧ (unwire l).getLast? = some 10 := by
  obtain ⟨a, c, rfl⟩ : ∃ a c, l = a ++ [c] := ⟨l.dropLast, l.getLast h0, (List.dropLast_concat_getLast h0).symm⟩
  have hc : c = 10 := by simpa using h
  subst hc
  have : unwire (a ++ [10]) = unwire a ++ [10] := by simp [unwire]
  rw [this]; simp
theorem fromL_ok (l : List UInt8) (hl : l.length ≤ 3000) (h : (fromL l).2.2 = 0) : (fromL l).1 = mkS (unwire l) ∧ toL (unwire l) = (mkS l, 0) := by
  unfold fromL at h ⊢
  rw [if_neg (by omega)] at h ⊢
  have hu := unwire_len l
  cases hE : wireE false 0 l with
  | some p => rw [hE] at h; exact absurd (show (3 : Int) = 0 from h) (by decide)
  | none =>
    rw [hE] at h
    simp only [] at h ⊢
    by_cases hx : l ≠ [] ∧ l.getLast? ≠ some 10
    · rw [if_pos hx] at h; exact absurd (show (4 : Int) = 0 from h) (by decide)
    · rw [if_neg hx] at h ⊢
      rw [if_neg (by omega)]
      refine ⟨rfl, ?_⟩
      have hW := wireE_none _ l 0 (Nat.le_refl _) hE
      obtain ⟨w1, w2⟩ := wire_unwire hW
      unfold toL
      rw [if_neg (by omega), if_neg (fun h13 => w2 13 h13 rfl), w1]
      by_cases h0 : l = []
      · subst h0; rfl
      · have hl10 : l.getLast? = some 10 := Classical.byContradiction fun hn => hx ⟨h0, hn⟩
        have := unwire_last h0 hl10
        rw [if_neg (fun hh => hh.2 this.2)]
theorem FromLine_pure : PL.bulletinlaw15_ArticleFromLine.Pure := by
  intro a ha
  obtain ⟨l, rfl⟩ : ∃ l, a = mkS l := ⟨a.data.toList, (mkS_data a).symm⟩
  refine Ev.at_ ?_
  unfold PL.bulletinlaw15_ArticleFromLine.f
  have hs := shortF l 3000 (by omega)
  rw [show ((3000 : Nat) : Int) = 3000 from rfl] at hs
  rw [hs]
  have hlen : (l.take 3000).length ≤ 3000 := by rw [List.length_take]; omega
  generalize l.take 3000 = t at *
  simp only [Option.bind_some]
  have hu := unwire_len t
  refine Ev.bind (fromLineF t (by omega)) (Ev.bind (refFromLineF t (by omega)) ?_)
  by_cases h0 : (fromL t).2.2 = 0
  · obtain ⟨h1, h2⟩ := fromL_ok t hlen h0
    have hf := toLineF (unwire t) (by omega)
    rw [h2] at hf
    rw [h1, hf]
    refine Ev.bind (Ev.const rfl) (Ev.bind (a := true) (Ev.const rfl) (Ev.ite_pos rfl (Ev.ite_pos rfl (Ev.ite_pos rfl (Ev.ite_pos rfl (Ev.ite_pos h0 (Ev.ite_pos rfl (Ev.const ?_))))))))
    simp
  · have h1 : ∃ u : List UInt8, (fromL t).1 = mkS u ∧ u.length ≤ 900000 := by
      unfold fromL
      split
      · exact ⟨[], rfl, by simp⟩
      · split
        · exact ⟨[], rfl, by simp⟩
        · split
          · exact ⟨[], rfl, by simp⟩
          · split
            · exact ⟨[], rfl, by simp⟩
            · exact ⟨_, rfl, by omega⟩
    obtain ⟨u, h1, h2⟩ := h1
    rw [h1, toLineF u h2]
    exact Ev.bind (Ev.const rfl) (Ev.bind (a := true) (Ev.const rfl) (Ev.ite_pos rfl (Ev.ite_pos rfl (Ev.ite_pos rfl (Ev.ite_pos rfl (Ev.ite_neg h0 (Ev.const rfl)))))))
end Go.Proofs.YtfeciafdioepiaaGreatDoor
namespace Go.Proofs.YtfeciafdioepiaaGreatDoor.Pure
theorem ArticleFromLine : Go.Proofs.YtfeciafdioepiaaGreatDoor.PL.bulletinlaw15_ArticleFromLine.Pure := Go.Proofs.YtfeciafdioepiaaGreatDoor.FromLine_pure
end Go.Proofs.YtfeciafdioepiaaGreatDoor.Pure
namespace Go.Proofs.YtfeciafdioepiaaGreatDoor.articleFromLine
open Go.ChangeShapes Go.WideShapes Go.ChangeAt Go.RowKit
open Go.ChangeMaps (open_string shut_string)
set_option linter.unusedVariables false
theorem own : ownKnob Tryz.prog.godebug = none := by kernel_rfl
set_option maxRecDepth 100000 in
theorem lifted (os : Os) (started : os.Started) (H : Type) (enc : TypeId × Value → H) :
    ReturnsInHanded {} Tryz.checked os 10 .any (fun w args => (Rows.articleFromLineSpec.pre enc Tryz.prog Tryz.f10 Rows.articleFromLineRow.domain false w args ∧ laidMetH Tryz.prog Rows.articleFromLineRow.laid w) ∧ sizedMet enc Tryz.prog Tryz.f10 (OpenSpec.ofChange Rows.articleFromLineSpec) false w args) (Rows.articleFromLineSpec.post enc Tryz.prog Tryz.f10 false true false false) := by
  refine handed_laid own started (by kernel_rfl) Tryz.func10
    (ChangeSpec.witness_shaped (enc := enc) (C := Tryz.checked) (os := os) (X := fun w _ => laidMetH Tryz.prog Rows.articleFromLineRow.laid w) false (World.laidAll Tryz.prog os Rows.articleFromLineRow.laid) #[.string ByteArray.empty] 8 (World.laidAll_os _ _ _)
      (World.shaped_of_ZipB (by kernel_rfl) (by kernel_rfl)) (by kernel_rfl) (by kernel_rfl) (by kernel_rfl)
      (by rw [MakeChecks.laidMetH_plain _ _ _ (by kernel_rfl)]; exact laidMet_laidAll _ (by kernel_rfl) (by kernel_rfl))) ?_
  intro W base args ds gs before hval0 hW hcnd hsz0 hL hsh _
  have hsz : (DataW.weightsEach Tryz.prog (Tryz.f10.params.toList ++ Rows.articleFromLineSpec.plain.varTypes Tryz.prog) (ds ++ gs)).all (· ≤ reachBytes) = true := hsz0
  have hval : ∀ (j : Nat) t v, Tryz.f10.params[j]? = some t → args[j]? = some v → Value.okWide Tryz.prog W .any base t v := hval0
  have hW' := hW
  obtain ⟨p, q, hA0, hV, rfl, hfz, hnd⟩ := hW
  have hA : DataW.TrodAll enc Tryz.prog W 0 (fun _ => true) true Tryz.f10.params.toList args.toList ds p := hA0
  rw [Tryz.params10] at hA hval hsz
  obtain ⟨v0, vs0, d0, ds0, p0, q0, hargs, rfl, rfl, h0, r0⟩ := trodAll_cons hA
  obtain ⟨rfl, rfl, rfl⟩ := trodAll_nil r0
  obtain rfl : args = #[v0] := by cases args; simp_all
  obtain ⟨rfl, rfl⟩ := trodVars_none hV
  obtain ⟨a0, rfl, rfl, rfl, y0⟩ := open_string Tryz.underlying9 (hval 0 9 v0 rfl rfl) h0
  have w0 : a0.size ≤ 140737488351232 := by
    have z := sized_string hsz (j := 0) (t := 9) rfl rfl
    rw [Array.length_toList] at z
    exact z
  clear hA0 hval0 hsz0 hsz
  refine (PL.bulletinlaw15_ArticleFromLine.walk Pure.ArticleFromLine a0 W (Tryz.laysM143.s1_3 W hsh) w0).mono fun e W' ⟨he, bel⟩ => ?_
  subst he
  exact ⟨_, rfl, _, _, _, [], _, [], hW', trodAll_mk1 (shut_bool Tryz.underlying4 _), (trodAll_cons_mk (shut_string Tryz.underlying9 y0) trodAll_mk0), rfl, bel.frame _, fun h => by cases h⟩
theorem over : Rows.articleFromLineRow.holds Tryz.pinned (OpenSpec.ofChange Rows.articleFromLineSpec) :=
  OpenClaim.holds_of_wide 10 Tryz.f10 rfl rfl rfl rfl rfl rfl rfl ⟨rfl, rfl, rfl, rfl, rfl⟩ rfl rfl rfl rfl rfl (by kernel_rfl) Tryz.func10 (by kernel_rfl)
    (of_decide_eq_true (by kernel_rfl)) (by unfold Func.isWrapper; first | (rw [if_pos (by decide +kernel)]; kernel_rfl) | (rw [if_neg (by decide +kernel)]; exact ⟨rfl, rfl⟩))
    (fun os started H enc _ => lifted os started H enc)
theorem row_holds : Rows.ArticleFromLineSaid := over
theorem card_holds : Rows.ArticleFromLineCardSaid :=
  Claim7.holds_tied_plain_at .later [] [.data, .pinned] true (true, "0ed969f1a3953f9b426fc905d95e5da96efd084e39c94fceb3821d79c3635a2d") false row_holds (fun _ h => by cases h) (by kernel_rfl) (fun _ h => by cases h) articleFromLine_row_tie rfl ⟨rfl, rfl⟩ (by kernel_rfl) rfl
    (fun f fn hf hfn => by
      obtain rfl : f = 10 := Option.some.inj ((show Tryz.prog.funcNamed "bulletin/bulletinlaw15.ArticleFromLine" = some 10 by kernel_rfl).symm.trans hf) |>.symm
      obtain rfl : fn = Tryz.f10 := (Option.some.inj (Tryz.func10.symm.trans hfn)).symm
      exact ⟨by kernel_rfl, fun j t ht => by
        rw [Tryz.params10] at ht
        have hm : t ∈ [9] := by simpa using Array.mem_of_getElem? ht
        have hall : ([9].all fun u => !Tryz.prog.wantsStandIn u) = true := by kernel_rfl
        exact (show Tryz.prog.wantsStandIn t = false by simpa using List.all_eq_true.1 hall t hm)⟩)
    (by kernel_rfl)
#print axioms card_holds
end Go.Proofs.YtfeciafdioepiaaGreatDoor.articleFromLine
namespace Go.Proofs.YtfeciafdioepiaaGreatDoor
/-- The card, under a short name, for the claim. -/
theorem articleFromLine_holds : Rows.ArticleFromLineCardSaid := articleFromLine.card_holds
end Go.Proofs.YtfeciafdioepiaaGreatDoor
