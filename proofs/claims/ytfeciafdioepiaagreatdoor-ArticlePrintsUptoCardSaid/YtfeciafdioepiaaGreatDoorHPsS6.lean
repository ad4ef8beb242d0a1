/- The contract of utf8's Encode at a code point, over this translation.; A law for a loop over an iterator, at the wide fence: the iterator says how it m; The contracts of utf8's Check, Valid, Runes over this translation.; The iterator of utf8's Runes over this translation, for whatever loop. -/
import Derived.Test.YtfeciafdioepiaaGreatDoorHPsS2
import Derived.Test.YtfeciafdioepiaaGreatDoorHPsS5
import Derived.Test.YtfeciafdioepiaaGreatDoorHPsS4
import Derived.RangeFuncFrom
import Derived.RangeFuncCalls
import Derived.Shelf.Abstract
import Derived.Shelf.RegionOpen
import Derived.WalkKit
import Derived.OwnWalkIn
import Derived.TacticsInMore
import Derived.LoopNIn
import Derived.LoopIn
namespace Go.Proofs.YtfeciafdioepiaaGreatDoor.PA
open Go.RowKit Go.Proofs.YtfeciafdioepiaaGreatDoorW.PrintWords Go.Proofs.YtfeciafdioepiaaGreatDoorW.PrintLast Go.Proofs.YtfeciafdioepiaaGreatDoorW.PrintMore
attribute [local go_sem] max2_int min2_int max_two min_two max_three min_three max_four min_four   -- for this text's walks alone
set_option linter.unusedVariables false
set_option linter.unusedSimpArgs false

/-! ### bulletinref09_ValidName: function 62 -/
mutual
def bulletinref09_ValidName.j0 : Nat → ByteArray → Bool → Option (Bool)
  | 0, _, _ => none
  | k + 1, x0, x12 => if x12 = true then (some false) else (bulletinref09_ValidName.l0 k x0 0)
def bulletinref09_ValidName.l0 : Nat → ByteArray → Int → Option (Bool)
  | 0, _, _ => none
  | k + 1, x0, x3 => if x3 < (x0.size : Int) then (if 0 ≤ x3 then ((bulletinref01_Lowercase.f (bt x0 x3)).bind fun t155 => (if t155 = true then (bulletinref09_ValidName.l0 k x0 (wrap64 (x3 + 1))) else ((bulletinref01_Uppercase.f (bt x0 x3)).bind fun t156 => (if t156 = true then (bulletinref09_ValidName.l0 k x0 (wrap64 (x3 + 1))) else (if x3 = 0 then (some false) else ((bulletinref01_Digit.f (bt x0 x3)).bind fun t157 => (if t157 = true then (bulletinref09_ValidName.l0 k x0 (wrap64 (x3 + 1))) else (if (bt x0 x3) = 45 then (bulletinref09_ValidName.l0 k x0 (wrap64 (x3 + 1))) else (some false))))))))) else (none)) else (some true)
end
def bulletinref09_ValidName.f (k : Nat) (a0 : ByteArray) : Option (Bool) := if (a0.size : Int) < 1 then (bulletinref09_ValidName.j0 k a0 true) else (bulletinref09_ValidName.j0 k a0 (decide ((a0.size : Int) > 40)))
set_option maxHeartbeats 8000000 in
set_option maxRecDepth 100000 in
theorem bulletinref09_ValidName.calls (k : Nat) (a0 : ByteArray) (r : Bool) (w : World) (h : bulletinref09_ValidName.f k a0 = some r) :
    Calls Tryz.prog 62 #[.string a0] w fun e w' => e = .returned (.bool r) ∧ Drawn0 w w' := by
  have H : (if (a0.size : Int) < 1 then (bulletinref09_ValidName.j0 k a0 true) else (bulletinref09_ValidName.j0 k a0 (decide ((a0.size : Int) > 40)))) = some r := h
  clear h
  have HC2 := Aside0.mk H
  clear H
  go_enter Tryz.func62, Tryz.ntmps62
  go_upto_region 1 with (fail)
  go_cut [12] (fun v12 wc => ∃ (kq : Nat) (x12_1 : Bool), v12 = .bool x12_1 ∧ Aside0 (bulletinref09_ValidName.j0 kq a0 x12_1 = some r) ∧ Aside0 (kq ≤ k) ∧ Drawn0 w wc)
  case first =>
    have H := HC2.out
    clear HC2
    by_cases c3 : (a0.size : Int) < 1
    · rw [if_pos c3] at H
      have c3b0 : decide ((a0.size : Int) < 1) = true := decide_eq_true c3
      have c3b1 : decide (a0.size < 1) = true := decide_eq_true (by omega)
      clear c3
      (first | rw [c3b0] | (simp only [i64_w, i32_w]; rw [c3b0]) | skip)
      have H' := Aside0.mk H
      clear H
      go_wp2
      go_meet
      case rel => exact ⟨_, (true), (by first | rfl | (simp; done) | (simp [*]; done)), H', ⟨by first | omega | exact Nat.le_refl _⟩, by repeat (first | exact Drawn0.refl _ | apply Drawn0.step)⟩
    · rw [if_neg c3] at H
      have c3b0 : decide ((a0.size : Int) < 1) = false := decide_eq_false c3
      have c3b1 : decide (a0.size < 1) = false := decide_eq_false (by omega)
      clear c3
      (first | rw [c3b0] | (simp only [i64_w, i32_w]; rw [c3b0]) | skip)
      have H' := Aside0.mk H
      clear H
      go_wp2
      go_meet
      case rel => exact ⟨_, (decide ((a0.size : Int) > 40)), (by first | rfl | (simp; done) | (simp [*]; done)), H', ⟨by first | omega | exact Nat.le_refl _⟩, by repeat (first | exact Drawn0.refl _ | apply Drawn0.step)⟩
  case rest =>
    clear HC2
    try clear p2
    try clear c3
    try clear c3b0
    try clear c3b1
    obtain ⟨kq, x12_1, rfl, HA, HJ1, ⟨mc1, rfl⟩⟩ := hcut
    cases kq with
    | zero => exact absurd HA.out (by simp [bulletinref09_ValidName.j0])
    | succ kj1 =>
      have H := HA.out
      clear HA
      simp only [bulletinref09_ValidName.j0] at H
      by_cases c4 : x12_1 = true
      · subst c4
        have H1 : (some false) = some r := by rw [if_pos rfl] at H; exact H
        clear H
        have H := H1
        clear H1
        obtain rfl := Option.some.inj H
        go_wp2
        go_ret
        exact ⟨by first | rfl | (simp; done) | (simp [*]; done), by repeat (first | exact Drawn0.refl _ | apply Drawn0.step)⟩
      · replace c4 := Bool.eq_false_iff.mpr c4
        subst c4
        have H1 : (bulletinref09_ValidName.l0 kj1 a0 0) = some r := by rw [if_neg (show ¬ (false = true) by decide)] at H; exact H
        clear H
        have H := H1
        clear H1
        have H' := Aside0.mk H
        clear H
        go_wp2
        go_loopg [3] kj1 (fun kq v3 w' => ∃ (x3_2 : Int), v3 = .int .i64 x3_2 ∧ Aside0 (bulletinref09_ValidName.l0 kq a0 x3_2 = some r) ∧ Aside0 (kq ≤ kj1) ∧ Drawn0 w w')
        case atStart => exact ⟨(0), (by first | rfl | (simp; done) | (simp [*]; done)), H', ⟨Nat.le_refl _⟩, by repeat (first | exact Drawn0.refl _ | apply Drawn0.step)⟩
        case round =>
          clear H'
          try clear c1
          try clear p2
          try clear c3
          try clear c3b0
          try clear c3b1
          try clear c4
          try clear p2
          obtain ⟨x3_2, rfl, HA, HK2, ⟨m2, rfl⟩⟩ := hrel
          cases gk with
          | zero => exact absurd HA.out (by simp [bulletinref09_ValidName.l0])
          | succ k2 =>
            have H := HA.out
            clear HA
            simp only [bulletinref09_ValidName.l0] at H
            by_cases c5 : x3_2 < (a0.size : Int)
            · rw [if_pos c5] at H
              have c5b0 : decide (x3_2 < (a0.size : Int)) = true := decide_eq_true c5
              clear c5
              by_cases c6 : 0 ≤ x3_2
              · rw [if_pos c6] at H
                have c6b0 : decide (0 ≤ x3_2) = true := decide_eq_true c6
                clear c6
                replace H := Option.bind_eq_some_iff.mp H
                obtain ⟨t155, A80, H⟩ := H
                replace H : (if t155 = true then (bulletinref09_ValidName.l0 k2 a0 (wrap64 (x3_2 + 1))) else ((bulletinref01_Uppercase.f (bt a0 x3_2)).bind fun t156 => (if t156 = true then (bulletinref09_ValidName.l0 k2 a0 (wrap64 (x3_2 + 1))) else (if x3_2 = 0 then (some false) else ((bulletinref01_Digit.f (bt a0 x3_2)).bind fun t157 => (if t157 = true then (bulletinref09_ValidName.l0 k2 a0 (wrap64 (x3_2 + 1))) else (if (bt a0 x3_2) = 45 then (bulletinref09_ValidName.l0 k2 a0 (wrap64 (x3_2 + 1))) else (some false)))))))) = some r := H
                have A8 := Aside0.mk A80
                clear A80
                by_cases c9 : t155 = true
                · subst c9
                  have H1 : (bulletinref09_ValidName.l0 k2 a0 (wrap64 (x3_2 + 1))) = some r := by rw [if_pos rfl] at H; exact H
                  clear H
                  have H := H1
                  clear H1
                  have H' := Aside0.mk H
                  clear H
                  have p7 : 0 ≤ (x3_2 : Int) := of_decide_eq_true (by first | (with_reducible assumption) | assumption)
                  have q7 : x3_2 < (a0.size : Int) := of_decide_eq_true (by first | (with_reducible assumption) | assumption)
                  have hx7 := bt_at a0 x3_2
                  replace p7 := eq_true p7
                  replace q7 := eq_true q7
                  go_wp2_with (first | ((with_reducible refine gate_callee (f := 86) rfl ?_); refine goesL_ (some 22) rfl rfl Tryz.func86 (by kernel_rfl) rfl #[.int .u8 (bt a0 x3_2)] rfl (by (try simp only [List.map_toArray, List.map_cons, List.map_nil]); first | done | rfl | (simp only [List.length_drop, List.length_take]; rfl)) ?_; (with_reducible refine (bulletinref01_Lowercase.calls (bt a0 x3_2) true _ A8.out).mono ?_); rintro e w' ⟨rfl, ⟨nd, rfl⟩⟩; refine ⟨_, rfl, ?_⟩))
                  go_roundg k2
                  case measure => have := HJ1.out; have := HK2.out; omega
                  case rel => exact ⟨(wrap64 (x3_2 + 1)), (by first | rfl | (simp; done) | (simp [*]; done)), H', ⟨by have := HJ1.out; have := HK2.out; omega⟩, by repeat (first | exact Drawn0.refl _ | apply Drawn0.step)⟩
                · replace c9 := Bool.eq_false_iff.mpr c9
                  subst c9
                  have H1 : ((bulletinref01_Uppercase.f (bt a0 x3_2)).bind fun t156 => (if t156 = true then (bulletinref09_ValidName.l0 k2 a0 (wrap64 (x3_2 + 1))) else (if x3_2 = 0 then (some false) else ((bulletinref01_Digit.f (bt a0 x3_2)).bind fun t157 => (if t157 = true then (bulletinref09_ValidName.l0 k2 a0 (wrap64 (x3_2 + 1))) else (if (bt a0 x3_2) = 45 then (bulletinref09_ValidName.l0 k2 a0 (wrap64 (x3_2 + 1))) else (some false))))))) = some r := by rw [if_neg (show ¬ (false = true) by decide)] at H; exact H
                  clear H
                  have H := H1
                  clear H1
                  replace H := Option.bind_eq_some_iff.mp H
                  obtain ⟨t156, A110, H⟩ := H
                  replace H : (if t156 = true then (bulletinref09_ValidName.l0 k2 a0 (wrap64 (x3_2 + 1))) else (if x3_2 = 0 then (some false) else ((bulletinref01_Digit.f (bt a0 x3_2)).bind fun t157 => (if t157 = true then (bulletinref09_ValidName.l0 k2 a0 (wrap64 (x3_2 + 1))) else (if (bt a0 x3_2) = 45 then (bulletinref09_ValidName.l0 k2 a0 (wrap64 (x3_2 + 1))) else (some false)))))) = some r := H
                  have A11 := Aside0.mk A110
                  clear A110
                  by_cases c12 : t156 = true
                  · subst c12
                    have H1 : (bulletinref09_ValidName.l0 k2 a0 (wrap64 (x3_2 + 1))) = some r := by rw [if_pos rfl] at H; exact H
                    clear H
                    have H := H1
                    clear H1
                    have H' := Aside0.mk H
                    clear H
                    have p7 : 0 ≤ (x3_2 : Int) := of_decide_eq_true (by first | (with_reducible assumption) | assumption)
                    have q7 : x3_2 < (a0.size : Int) := of_decide_eq_true (by first | (with_reducible assumption) | assumption)
                    have hx7 := bt_at a0 x3_2
                    replace p7 := eq_true p7
                    replace q7 := eq_true q7
                    go_wp2_with (first | ((with_reducible refine gate_callee (f := 86) rfl ?_); refine goesL_ (some 22) rfl rfl Tryz.func86 (by kernel_rfl) rfl #[.int .u8 (bt a0 x3_2)] rfl (by (try simp only [List.map_toArray, List.map_cons, List.map_nil]); first | done | rfl | (simp only [List.length_drop, List.length_take]; rfl)) ?_; (with_reducible refine (bulletinref01_Lowercase.calls (bt a0 x3_2) false _ A8.out).mono ?_); rintro e w' ⟨rfl, ⟨nd, rfl⟩⟩; refine ⟨_, rfl, ?_⟩; have p10 : 0 ≤ (x3_2 : Int) := of_decide_eq_true (by first | (with_reducible assumption) | assumption); have q10 : x3_2 < (a0.size : Int) := of_decide_eq_true (by first | (with_reducible assumption) | assumption); have hx10 := bt_at a0 x3_2; replace p10 := eq_true p10; replace q10 := eq_true q10) | (go_at_call 87; (with_reducible refine (bulletinref01_Uppercase.calls (bt a0 x3_2) true _ A11.out).mono ?_); rintro e w' ⟨rfl, ⟨nd, rfl⟩⟩))
                    go_roundg k2
                    case measure => have := HJ1.out; have := HK2.out; omega
                    case rel => exact ⟨(wrap64 (x3_2 + 1)), (by first | rfl | (simp; done) | (simp [*]; done)), H', ⟨by have := HJ1.out; have := HK2.out; omega⟩, by repeat (first | exact Drawn0.refl _ | apply Drawn0.step)⟩
                  · replace c12 := Bool.eq_false_iff.mpr c12
                    subst c12
                    have H1 : (if x3_2 = 0 then (some false) else ((bulletinref01_Digit.f (bt a0 x3_2)).bind fun t157 => (if t157 = true then (bulletinref09_ValidName.l0 k2 a0 (wrap64 (x3_2 + 1))) else (if (bt a0 x3_2) = 45 then (bulletinref09_ValidName.l0 k2 a0 (wrap64 (x3_2 + 1))) else (some false))))) = some r := by rw [if_neg (show ¬ (false = true) by decide)] at H; exact H
                    clear H
                    have H := H1
                    clear H1
                    by_cases c13 : x3_2 = 0
                    · rw [if_pos c13] at H
                      have c13b0 : (x3_2 == 0) = true := beq_iff_eq.mpr c13
                      have c13b1 : (x3_2 != 0) = false := bne_eq_false_iff_eq.mpr c13
                      clear c13
                      obtain rfl := Option.some.inj H
                      have p7 : 0 ≤ (x3_2 : Int) := of_decide_eq_true (by first | (with_reducible assumption) | assumption)
                      have q7 : x3_2 < (a0.size : Int) := of_decide_eq_true (by first | (with_reducible assumption) | assumption)
                      have hx7 := bt_at a0 x3_2
                      replace p7 := eq_true p7
                      replace q7 := eq_true q7
                      go_wp2_with (first | ((with_reducible refine gate_callee (f := 86) rfl ?_); refine goesL_ (some 22) rfl rfl Tryz.func86 (by kernel_rfl) rfl #[.int .u8 (bt a0 x3_2)] rfl (by (try simp only [List.map_toArray, List.map_cons, List.map_nil]); first | done | rfl | (simp only [List.length_drop, List.length_take]; rfl)) ?_; (with_reducible refine (bulletinref01_Lowercase.calls (bt a0 x3_2) false _ A8.out).mono ?_); rintro e w' ⟨rfl, ⟨nd, rfl⟩⟩; refine ⟨_, rfl, ?_⟩; have p10 : 0 ≤ (x3_2 : Int) := of_decide_eq_true (by first | (with_reducible assumption) | assumption); have q10 : x3_2 < (a0.size : Int) := of_decide_eq_true (by first | (with_reducible assumption) | assumption); have hx10 := bt_at a0 x3_2; replace p10 := eq_true p10; replace q10 := eq_true q10) | (go_at_call 87; (with_reducible refine (bulletinref01_Uppercase.calls (bt a0 x3_2) false _ A11.out).mono ?_); rintro e w' ⟨rfl, ⟨nd, rfl⟩⟩))
                      go_ret
                      exact ⟨by first | rfl | (simp; done) | (simp [*]; done), by repeat (first | exact Drawn0.refl _ | apply Drawn0.step)⟩
                    · rw [if_neg c13] at H
                      have c13b0 : (x3_2 == 0) = false := beq_eq_false_iff_ne.mpr c13
                      have c13b1 : (x3_2 != 0) = true := bne_iff_ne.mpr c13
                      replace H := Option.bind_eq_some_iff.mp H
                      obtain ⟨t157, A150, H⟩ := H
                      replace H : (if t157 = true then (bulletinref09_ValidName.l0 k2 a0 (wrap64 (x3_2 + 1))) else (if (bt a0 x3_2) = 45 then (bulletinref09_ValidName.l0 k2 a0 (wrap64 (x3_2 + 1))) else (some false))) = some r := H
                      have A15 := Aside0.mk A150
                      clear A150
                      by_cases c16 : t157 = true
                      · subst c16
                        have H1 : (bulletinref09_ValidName.l0 k2 a0 (wrap64 (x3_2 + 1))) = some r := by rw [if_pos rfl] at H; exact H
                        clear H
                        have H := H1
                        clear H1
                        have H' := Aside0.mk H
                        clear H
                        have p7 : 0 ≤ (x3_2 : Int) := of_decide_eq_true (by first | (with_reducible assumption) | assumption)
                        have q7 : x3_2 < (a0.size : Int) := of_decide_eq_true (by first | (with_reducible assumption) | assumption)
                        have hx7 := bt_at a0 x3_2
                        replace p7 := eq_true p7
                        replace q7 := eq_true q7
                        go_wp2_with (first | ((with_reducible refine gate_callee (f := 86) rfl ?_); refine goesL_ (some 22) rfl rfl Tryz.func86 (by kernel_rfl) rfl #[.int .u8 (bt a0 x3_2)] rfl (by (try simp only [List.map_toArray, List.map_cons, List.map_nil]); first | done | rfl | (simp only [List.length_drop, List.length_take]; rfl)) ?_; (with_reducible refine (bulletinref01_Lowercase.calls (bt a0 x3_2) false _ A8.out).mono ?_); rintro e w' ⟨rfl, ⟨nd, rfl⟩⟩; refine ⟨_, rfl, ?_⟩; have p10 : 0 ≤ (x3_2 : Int) := of_decide_eq_true (by first | (with_reducible assumption) | assumption); have q10 : x3_2 < (a0.size : Int) := of_decide_eq_true (by first | (with_reducible assumption) | assumption); have hx10 := bt_at a0 x3_2; replace p10 := eq_true p10; replace q10 := eq_true q10) | (go_at_call 87; (with_reducible refine (bulletinref01_Uppercase.calls (bt a0 x3_2) false _ A11.out).mono ?_); rintro e w' ⟨rfl, ⟨nd, rfl⟩⟩; have p14 : 0 ≤ (x3_2 : Int) := of_decide_eq_true (by first | (with_reducible assumption) | assumption); have q14 : x3_2 < (a0.size : Int) := of_decide_eq_true (by first | (with_reducible assumption) | assumption); have hx14 := bt_at a0 x3_2; replace p14 := eq_true p14; replace q14 := eq_true q14) | (go_at_call 88; (with_reducible refine (bulletinref01_Digit.calls (bt a0 x3_2) true _ A15.out).mono ?_); rintro e w' ⟨rfl, ⟨nd, rfl⟩⟩))
                        go_roundg k2
                        case measure => have := HJ1.out; have := HK2.out; omega
                        case rel => exact ⟨(wrap64 (x3_2 + 1)), (by first | rfl | (simp; done) | (simp [*]; done)), H', ⟨by have := HJ1.out; have := HK2.out; omega⟩, by repeat (first | exact Drawn0.refl _ | apply Drawn0.step)⟩
                      · replace c16 := Bool.eq_false_iff.mpr c16
                        subst c16
                        have H1 : (if (bt a0 x3_2) = 45 then (bulletinref09_ValidName.l0 k2 a0 (wrap64 (x3_2 + 1))) else (some false)) = some r := by rw [if_neg (show ¬ (false = true) by decide)] at H; exact H
                        clear H
                        have H := H1
                        clear H1
                        by_cases c18 : (bt a0 x3_2) = 45
                        · rw [if_pos c18] at H
                          have c18b0 : ((bt a0 x3_2) == 45) = true := beq_iff_eq.mpr c18
                          have c18b1 : ((bt a0 x3_2) != 45) = false := bne_eq_false_iff_eq.mpr c18
                          clear c18
                          have H' := Aside0.mk H
                          clear H
                          have p7 : 0 ≤ (x3_2 : Int) := of_decide_eq_true (by first | (with_reducible assumption) | assumption)
                          have q7 : x3_2 < (a0.size : Int) := of_decide_eq_true (by first | (with_reducible assumption) | assumption)
                          have hx7 := bt_at a0 x3_2
                          replace p7 := eq_true p7
                          replace q7 := eq_true q7
                          go_wp2_with (first | ((with_reducible refine gate_callee (f := 86) rfl ?_); refine goesL_ (some 22) rfl rfl Tryz.func86 (by kernel_rfl) rfl #[.int .u8 (bt a0 x3_2)] rfl (by (try simp only [List.map_toArray, List.map_cons, List.map_nil]); first | done | rfl | (simp only [List.length_drop, List.length_take]; rfl)) ?_; (with_reducible refine (bulletinref01_Lowercase.calls (bt a0 x3_2) false _ A8.out).mono ?_); rintro e w' ⟨rfl, ⟨nd, rfl⟩⟩; refine ⟨_, rfl, ?_⟩; have p10 : 0 ≤ (x3_2 : Int) := of_decide_eq_true (by first | (with_reducible assumption) | assumption); have q10 : x3_2 < (a0.size : Int) := of_decide_eq_true (by first | (with_reducible assumption) | assumption); have hx10 := bt_at a0 x3_2; replace p10 := eq_true p10; replace q10 := eq_true q10) | (go_at_call 87; (with_reducible refine (bulletinref01_Uppercase.calls (bt a0 x3_2) false _ A11.out).mono ?_); rintro e w' ⟨rfl, ⟨nd, rfl⟩⟩; have p14 : 0 ≤ (x3_2 : Int) := of_decide_eq_true (by first | (with_reducible assumption) | assumption); have q14 : x3_2 < (a0.size : Int) := of_decide_eq_true (by first | (with_reducible assumption) | assumption); have hx14 := bt_at a0 x3_2; replace p14 := eq_true p14; replace q14 := eq_true q14) | (go_at_call 88; (with_reducible refine (bulletinref01_Digit.calls (bt a0 x3_2) false _ A15.out).mono ?_); rintro e w' ⟨rfl, ⟨nd, rfl⟩⟩; have p17 : 0 ≤ (x3_2 : Int) := of_decide_eq_true (by first | (with_reducible assumption) | assumption); have q17 : x3_2 < (a0.size : Int) := of_decide_eq_true (by first | (with_reducible assumption) | assumption); have hx17 := bt_at a0 x3_2; replace p17 := eq_true p17; replace q17 := eq_true q17))
                          go_roundg k2
                          case measure => have := HJ1.out; have := HK2.out; omega
                          case rel => exact ⟨(wrap64 (x3_2 + 1)), (by first | rfl | (simp; done) | (simp [*]; done)), H', ⟨by have := HJ1.out; have := HK2.out; omega⟩, by repeat (first | exact Drawn0.refl _ | apply Drawn0.step)⟩
                        · rw [if_neg c18] at H
                          have c18b0 : ((bt a0 x3_2) == 45) = false := beq_eq_false_iff_ne.mpr c18
                          have c18b1 : ((bt a0 x3_2) != 45) = true := bne_iff_ne.mpr c18
                          obtain rfl := Option.some.inj H
                          have p7 : 0 ≤ (x3_2 : Int) := of_decide_eq_true (by first | (with_reducible assumption) | assumption)
                          have q7 : x3_2 < (a0.size : Int) := of_decide_eq_true (by first | (with_reducible assumption) | assumption)
                          have hx7 := bt_at a0 x3_2
                          replace p7 := eq_true p7
                          replace q7 := eq_true q7
                          go_wp2_with (first | ((with_reducible refine gate_callee (f := 86) rfl ?_); refine goesL_ (some 22) rfl rfl Tryz.func86 (by kernel_rfl) rfl #[.int .u8 (bt a0 x3_2)] rfl (by (try simp only [List.map_toArray, List.map_cons, List.map_nil]); first | done | rfl | (simp only [List.length_drop, List.length_take]; rfl)) ?_; (with_reducible refine (bulletinref01_Lowercase.calls (bt a0 x3_2) false _ A8.out).mono ?_); rintro e w' ⟨rfl, ⟨nd, rfl⟩⟩; refine ⟨_, rfl, ?_⟩; have p10 : 0 ≤ (x3_2 : Int) := of_decide_eq_true (by first | (with_reducible assumption) | assumption); have q10 : x3_2 < (a0.size : Int) := of_decide_eq_true (by first | (with_reducible assumption) | assumption); have hx10 := bt_at a0 x3_2; replace p10 := eq_true p10; replace q10 := eq_true q10) | (go_at_call 87; (with_reducible refine (bulletinref01_Uppercase.calls (bt a0 x3_2) false _ A11.out).mono ?_); rintro e w' ⟨rfl, ⟨nd, rfl⟩⟩; have p14 : 0 ≤ (x3_2 : Int) := of_decide_eq_true (by first | (with_reducible assumption) | assumption); have q14 : x3_2 < (a0.size : Int) := of_decide_eq_true (by first | (with_reducible assumption) | assumption); have hx14 := bt_at a0 x3_2; replace p14 := eq_true p14; replace q14 := eq_true q14) | (go_at_call 88; (with_reducible refine (bulletinref01_Digit.calls (bt a0 x3_2) false _ A15.out).mono ?_); rintro e w' ⟨rfl, ⟨nd, rfl⟩⟩; have p17 : 0 ≤ (x3_2 : Int) := of_decide_eq_true (by first | (with_reducible assumption) | assumption); have q17 : x3_2 < (a0.size : Int) := of_decide_eq_true (by first | (with_reducible assumption) | assumption); have hx17 := bt_at a0 x3_2; replace p17 := eq_true p17; replace q17 := eq_true q17))
                          go_ret
                          exact ⟨by first | rfl | (simp; done) | (simp [*]; done), by repeat (first | exact Drawn0.refl _ | apply Drawn0.step)⟩
              · rw [if_neg c6] at H
                exact absurd H (by simp)
            · rw [if_neg c5] at H
              have c5b0 : decide (x3_2 < (a0.size : Int)) = false := decide_eq_false c5
              clear c5
              obtain rfl := Option.some.inj H
              go_wp2
              go_ret
              exact ⟨by first | rfl | (simp; done) | (simp [*]; done), by repeat (first | exact Drawn0.refl _ | apply Drawn0.step)⟩

/-! ### bulletinref09_add: function 63 -/
end Go.Proofs.YtfeciafdioepiaaGreatDoor.PA
namespace Go.Proofs.YtfeciafdioepiaaGreatDoor.PA
open Go.RowKit Go.Proofs.YtfeciafdioepiaaGreatDoorW.PrintWords Go.Proofs.YtfeciafdioepiaaGreatDoorW.PrintLast Go.Proofs.YtfeciafdioepiaaGreatDoorW.PrintMore
attribute [local go_sem] max2_int min2_int max_two min_two max_three min_three max_four min_four   -- for this text's walks alone
set_option linter.unusedVariables false
set_option linter.unusedSimpArgs false

/-! ### bulletinref15_Parse: function 13 -/
-- NOT PRINTED: function 65 (stringslite_Cut)

-- NOT PRINTED: function 41 (strings_Cut)

/-! ### utf8_class_within: function 94 -/
def utf8_class_within.f (a0_0 : Int) (a0_1 : Int) (a0_2 : Int) (a0_3 : Int) (a0_4 : Int) (a1 : Int) : Option (Bool) := if a1 ≥ a0_3 then (if a1 ≤ a0_4 then (if a1 < 55296 then (some true) else (some (decide (a1 > 57343)))) else (some false)) else (some false)
set_option maxHeartbeats 8000000 in
set_option maxRecDepth 100000 in
theorem utf8_class_within.calls (a0_0 : Int) (a0_1 : Int) (a0_2 : Int) (a0_3 : Int) (a0_4 : Int) (a1 : Int) (r : Bool) (w : World) (h : utf8_class_within.f a0_0 a0_1 a0_2 a0_3 a0_4 a1 = some r) :
    Calls Tryz.prog 94 #[.agg #[.int .u8 a0_0, .int .u8 a0_1, .int .u8 a0_2, .int .i32 a0_3, .int .i32 a0_4], .int .i32 a1] w fun e w' => e = .returned (.bool r) ∧ Below w.heap.size w w' := by
  have hu130 := Tryz.underlying130
  have HB := Aside0.mk (Below.refl w.heap.size w)
  have H : (if a1 ≥ a0_3 then (if a1 ≤ a0_4 then (if a1 < 55296 then (some true) else (some (decide (a1 > 57343)))) else (some false)) else (some false)) = some r := h
  clear h
  by_cases c3 : a1 ≥ a0_3
  · rw [if_pos c3] at H
    have c3b0 : decide (a0_3 ≤ a1) = true := decide_eq_true c3
    clear c3
    by_cases c4 : a1 ≤ a0_4
    · rw [if_pos c4] at H
      have c4b0 : decide (a1 ≤ a0_4) = true := decide_eq_true c4
      clear c4
      by_cases c5 : a1 < 55296
      · rw [if_pos c5] at H
        have c5b0 : decide (a1 < 55296) = true := decide_eq_true c5
        clear c5
        obtain rfl := Option.some.inj H
        go_enter Tryz.func94, Tryz.ntmps94
        go_wp2_with (first | ((with_reducible refine gate_dst (N := 2) rfl ?_); refine box_event ?hg (N := 2) ?hd (cs := #[.int .u8 a0_0, .int .u8 a0_1, .int .u8 a0_2, .int .i32 a0_3, .int .i32 a0_4]) (t := 130) ?hr ?_; (case hd => rfl); (case hg => rfl); (case hr => first | (go_simp; done) | (go_simp; rfl)); intro gb180 hg w6 hbox hb; have n0_ := Aside0.mk (below_step (by repeat (first | (with_reducible first | exact HB.out | apply below_alloc | apply pw_below_drewN | apply below_drew1) | exact HB.out)) hb); have n1_ := Aside0.mk (hbox); have n2_ := Aside0.mk ((by rw [hg]; exact (below_size (by repeat (first | (with_reducible first | exact HB.out | apply below_alloc | apply pw_below_drewN | apply below_drew1) | exact HB.out))) : w.heap.size ≤ gb180)); have n3_ := Aside0.mk ((by rw [hg]; exact (below_size (by repeat (first | (with_reducible first | exact HB.out | apply below_alloc | apply pw_below_drewN | apply below_drew1) | exact HB.out))) : w.heap.size ≤ gb180)); clear HB; have HB := n0_; have BK180 := n1_; have GW180 := n2_; have GE180 := n3_; clear n0_ n1_ n2_ n3_; clear hb hbox hg; have hcz7_0 : w6.cell? ⟨gb180, 0, none⟩ = some (.int .u8 a0_0) := (blk_cell BK180.out 0).trans rfl; have hcz7_1 : w6.cell? ⟨gb180, 1, none⟩ = some (.int .u8 a0_1) := (blk_cell BK180.out 1).trans rfl; have hcz7_2 : w6.cell? ⟨gb180, 2, none⟩ = some (.int .u8 a0_2) := (blk_cell BK180.out 2).trans rfl; have hcz7_3 : w6.cell? ⟨gb180, 3, none⟩ = some (.int .i32 a0_3) := (blk_cell BK180.out 3).trans rfl; have hcz7_4 : w6.cell? ⟨gb180, 4, none⟩ = some (.int .i32 a0_4) := (blk_cell BK180.out 4).trans rfl; have hfz7_0 := blk_frozen BK180.out 0; have hfz7_1 := blk_frozen BK180.out 1; have hfz7_2 := blk_frozen BK180.out 2; have hfz7_3 := blk_frozen BK180.out 3; have hfz7_4 := blk_frozen BK180.out 4))
        go_ret
        exact ⟨by first | rfl | (simp [errW_none, errW_some] <;> rfl) | (simp [*, errW_none, errW_some] <;> rfl), by repeat (first | (with_reducible first | exact HB.out | apply below_alloc | apply pw_below_drewN | apply below_drew1 | refine below_set ?_ GE180.out) | exact HB.out)⟩
      · rw [if_neg c5] at H
        have c5b0 : decide (a1 < 55296) = false := decide_eq_false c5
        clear c5
        obtain rfl := Option.some.inj H
        go_enter Tryz.func94, Tryz.ntmps94
        go_wp2_with (first | ((with_reducible refine gate_dst (N := 2) rfl ?_); refine box_event ?hg (N := 2) ?hd (cs := #[.int .u8 a0_0, .int .u8 a0_1, .int .u8 a0_2, .int .i32 a0_3, .int .i32 a0_4]) (t := 130) ?hr ?_; (case hd => rfl); (case hg => rfl); (case hr => first | (go_simp; done) | (go_simp; rfl)); intro gb180 hg w8 hbox hb; have n0_ := Aside0.mk (below_step (by repeat (first | (with_reducible first | exact HB.out | apply below_alloc | apply pw_below_drewN | apply below_drew1) | exact HB.out)) hb); have n1_ := Aside0.mk (hbox); have n2_ := Aside0.mk ((by rw [hg]; exact (below_size (by repeat (first | (with_reducible first | exact HB.out | apply below_alloc | apply pw_below_drewN | apply below_drew1) | exact HB.out))) : w.heap.size ≤ gb180)); have n3_ := Aside0.mk ((by rw [hg]; exact (below_size (by repeat (first | (with_reducible first | exact HB.out | apply below_alloc | apply pw_below_drewN | apply below_drew1) | exact HB.out))) : w.heap.size ≤ gb180)); clear HB; have HB := n0_; have BK180 := n1_; have GW180 := n2_; have GE180 := n3_; clear n0_ n1_ n2_ n3_; clear hb hbox hg; have hcz9_0 : w8.cell? ⟨gb180, 0, none⟩ = some (.int .u8 a0_0) := (blk_cell BK180.out 0).trans rfl; have hcz9_1 : w8.cell? ⟨gb180, 1, none⟩ = some (.int .u8 a0_1) := (blk_cell BK180.out 1).trans rfl; have hcz9_2 : w8.cell? ⟨gb180, 2, none⟩ = some (.int .u8 a0_2) := (blk_cell BK180.out 2).trans rfl; have hcz9_3 : w8.cell? ⟨gb180, 3, none⟩ = some (.int .i32 a0_3) := (blk_cell BK180.out 3).trans rfl; have hcz9_4 : w8.cell? ⟨gb180, 4, none⟩ = some (.int .i32 a0_4) := (blk_cell BK180.out 4).trans rfl; have hfz9_0 := blk_frozen BK180.out 0; have hfz9_1 := blk_frozen BK180.out 1; have hfz9_2 := blk_frozen BK180.out 2; have hfz9_3 := blk_frozen BK180.out 3; have hfz9_4 := blk_frozen BK180.out 4))
        go_ret
        exact ⟨by first | rfl | (simp [errW_none, errW_some] <;> rfl) | (simp [*, errW_none, errW_some] <;> rfl), by repeat (first | (with_reducible first | exact HB.out | apply below_alloc | apply pw_below_drewN | apply below_drew1 | refine below_set ?_ GE180.out) | exact HB.out)⟩
    · rw [if_neg c4] at H
      have c4b0 : decide (a1 ≤ a0_4) = false := decide_eq_false c4
      clear c4
      obtain rfl := Option.some.inj H
      go_enter Tryz.func94, Tryz.ntmps94
      go_wp2_with (first | ((with_reducible refine gate_dst (N := 2) rfl ?_); refine box_event ?hg (N := 2) ?hd (cs := #[.int .u8 a0_0, .int .u8 a0_1, .int .u8 a0_2, .int .i32 a0_3, .int .i32 a0_4]) (t := 130) ?hr ?_; (case hd => rfl); (case hg => rfl); (case hr => first | (go_simp; done) | (go_simp; rfl)); intro gb180 hg w10 hbox hb; have n0_ := Aside0.mk (below_step (by repeat (first | (with_reducible first | exact HB.out | apply below_alloc | apply pw_below_drewN | apply below_drew1) | exact HB.out)) hb); have n1_ := Aside0.mk (hbox); have n2_ := Aside0.mk ((by rw [hg]; exact (below_size (by repeat (first | (with_reducible first | exact HB.out | apply below_alloc | apply pw_below_drewN | apply below_drew1) | exact HB.out))) : w.heap.size ≤ gb180)); have n3_ := Aside0.mk ((by rw [hg]; exact (below_size (by repeat (first | (with_reducible first | exact HB.out | apply below_alloc | apply pw_below_drewN | apply below_drew1) | exact HB.out))) : w.heap.size ≤ gb180)); clear HB; have HB := n0_; have BK180 := n1_; have GW180 := n2_; have GE180 := n3_; clear n0_ n1_ n2_ n3_; clear hb hbox hg; have hcz11_0 : w10.cell? ⟨gb180, 0, none⟩ = some (.int .u8 a0_0) := (blk_cell BK180.out 0).trans rfl; have hcz11_1 : w10.cell? ⟨gb180, 1, none⟩ = some (.int .u8 a0_1) := (blk_cell BK180.out 1).trans rfl; have hcz11_2 : w10.cell? ⟨gb180, 2, none⟩ = some (.int .u8 a0_2) := (blk_cell BK180.out 2).trans rfl; have hcz11_3 : w10.cell? ⟨gb180, 3, none⟩ = some (.int .i32 a0_3) := (blk_cell BK180.out 3).trans rfl; have hcz11_4 : w10.cell? ⟨gb180, 4, none⟩ = some (.int .i32 a0_4) := (blk_cell BK180.out 4).trans rfl; have hfz11_0 := blk_frozen BK180.out 0; have hfz11_1 := blk_frozen BK180.out 1; have hfz11_2 := blk_frozen BK180.out 2; have hfz11_3 := blk_frozen BK180.out 3; have hfz11_4 := blk_frozen BK180.out 4))
      go_ret
      exact ⟨by first | rfl | (simp [errW_none, errW_some] <;> rfl) | (simp [*, errW_none, errW_some] <;> rfl), by repeat (first | (with_reducible first | exact HB.out | apply below_alloc | apply pw_below_drewN | apply below_drew1 | refine below_set ?_ GE180.out) | exact HB.out)⟩
  · rw [if_neg c3] at H
    have c3b0 : decide (a0_3 ≤ a1) = false := decide_eq_false c3
    clear c3
    obtain rfl := Option.some.inj H
    go_enter Tryz.func94, Tryz.ntmps94
    go_wp2_with (first | ((with_reducible refine gate_dst (N := 2) rfl ?_); refine box_event ?hg (N := 2) ?hd (cs := #[.int .u8 a0_0, .int .u8 a0_1, .int .u8 a0_2, .int .i32 a0_3, .int .i32 a0_4]) (t := 130) ?hr ?_; (case hd => rfl); (case hg => rfl); (case hr => first | (go_simp; done) | (go_simp; rfl)); intro gb180 hg w12 hbox hb; have n0_ := Aside0.mk (below_step (by repeat (first | (with_reducible first | exact HB.out | apply below_alloc | apply pw_below_drewN | apply below_drew1) | exact HB.out)) hb); have n1_ := Aside0.mk (hbox); have n2_ := Aside0.mk ((by rw [hg]; exact (below_size (by repeat (first | (with_reducible first | exact HB.out | apply below_alloc | apply pw_below_drewN | apply below_drew1) | exact HB.out))) : w.heap.size ≤ gb180)); have n3_ := Aside0.mk ((by rw [hg]; exact (below_size (by repeat (first | (with_reducible first | exact HB.out | apply below_alloc | apply pw_below_drewN | apply below_drew1) | exact HB.out))) : w.heap.size ≤ gb180)); clear HB; have HB := n0_; have BK180 := n1_; have GW180 := n2_; have GE180 := n3_; clear n0_ n1_ n2_ n3_; clear hb hbox hg; have hcz13_0 : w12.cell? ⟨gb180, 0, none⟩ = some (.int .u8 a0_0) := (blk_cell BK180.out 0).trans rfl; have hcz13_1 : w12.cell? ⟨gb180, 1, none⟩ = some (.int .u8 a0_1) := (blk_cell BK180.out 1).trans rfl; have hcz13_2 : w12.cell? ⟨gb180, 2, none⟩ = some (.int .u8 a0_2) := (blk_cell BK180.out 2).trans rfl; have hcz13_3 : w12.cell? ⟨gb180, 3, none⟩ = some (.int .i32 a0_3) := (blk_cell BK180.out 3).trans rfl; have hcz13_4 : w12.cell? ⟨gb180, 4, none⟩ = some (.int .i32 a0_4) := (blk_cell BK180.out 4).trans rfl; have hfz13_0 := blk_frozen BK180.out 0; have hfz13_1 := blk_frozen BK180.out 1; have hfz13_2 := blk_frozen BK180.out 2; have hfz13_3 := blk_frozen BK180.out 3; have hfz13_4 := blk_frozen BK180.out 4))
    go_ret
    exact ⟨by first | rfl | (simp [errW_none, errW_some] <;> rfl) | (simp [*, errW_none, errW_some] <;> rfl), by repeat (first | (with_reducible first | exact HB.out | apply below_alloc | apply pw_below_drewN | apply below_drew1 | refine below_set ?_ GE180.out) | exact HB.out)⟩

-- NOT PRINTED: function 67 (utf8_Encode)

-- NOT PRINTED: function 42 (article_badByte)

-- NOT PRINTED: function 17 (article_CheckBody)

-- NOT PRINTED: function 49 (strings_Builder_Len)

-- NOT PRINTED: function 117 (ascii_Printable)

-- NOT PRINTED: function 119 (field_some)

-- NOT PRINTED: function 89 (field_Field_Check)

-- NOT PRINTED: function 64 (field_Field_Fold)

-- NOT PRINTED: function 40 (field_Print)

-- NOT PRINTED: function 16 (article_Print)

-- NOT PRINTED: function 48 (article_Lines)

-- NOT PRINTED: function 21 (article_Quote)

-- NOT PRINTED: function 76 (strings_trimLeftByte)

-- NOT PRINTED: function 77 (strings_makeASCIISet)

-- NOT PRINTED: function 102 (strings_asciiSet_contains)

-- NOT PRINTED: function 78 (strings_trimLeftASCII)

-- NOT PRINTED: function 126 (utf8_decodeRuneInStringSlow)

-- NOT PRINTED: function 103 (utf8_DecodeRuneInString)

-- NOT PRINTED: function 142 (utf8_ValidRune)

-- NOT PRINTED: function 127 (strings_IndexRune)

-- NOT PRINTED: function 104 (strings_ContainsRune)

-- NOT PRINTED: function 79 (strings_trimLeftUnicode)

-- NOT PRINTED: function 52 (strings_TrimLeft)

/-! ### stringslite_HasPrefix: function 83 -/
/-! ### stringslite_TrimPrefix: function 80 -/
/-! ### strings_TrimPrefix: function 53 -/
-- NOT PRINTED: function 24 (article_Level)

-- NOT PRINTED: function 39 (article_Count)

-- NOT PRINTED: function 14 (bulletinlaw15_known)

/-! ### bulletinlaw15_same: function 15 -/
mutual
def bulletinlaw15_same.j0 : Nat → Bool → List (S76) → ByteArray → List (S78) → ByteArray → Option (Bool)
  | 0, _, _, _, _, _ => none
  | k + 1, x19, x188000, x188001, x189000, x189001 => if x19 = true then (some false) else (bulletinlaw15_same.l0 k 0 x188000 x188001 x189000 x189001)
def bulletinlaw15_same.l0 : Nat → Int → List (S76) → ByteArray → List (S78) → ByteArray → Option (Bool)
  | 0, _, _, _, _, _ => none
  | k + 1, x5, x188000, x188001, x189000, x189001 => if x5 < (x188000.length : Int) then (if 0 ≤ x5 then (if x5 < (x189000.length : Int) then (if ((rd_T76 x188000 x5).f0).toList = ((rd_T78 x189000 x5).f0).toList then (if ((rd_T76 x188000 x5).f1).toList = ((rd_T78 x189000 x5).f1).toList then (bulletinlaw15_same.l0 k (wrap64 (x5 + 1)) x188000 x188001 x189000 x189001) else (some false)) else (some false)) else (none)) else (none)) else (some true)
end
def bulletinlaw15_same.f (k : Nat) (l0_0 : List (S76)) (a0_1 : ByteArray) (l1_0 : List (S78)) (a1_1 : ByteArray) : Option (Bool) := if (l0_0.length : Int) = (l1_0.length : Int) then (bulletinlaw15_same.j0 k (a0_1.toList != a1_1.toList) l0_0 a0_1 l1_0 a1_1) else (bulletinlaw15_same.j0 k true l0_0 a0_1 l1_0 a1_1)
set_option maxHeartbeats 8000000 in
set_option maxRecDepth 100000 in
theorem bulletinlaw15_same.calls (k : Nat) (A0_0 : Option Addr) (c0_0 : Nat) (l0_0 : List (S76)) (a0_1 : ByteArray) (A1_0 : Option Addr) (c1_0 : Nat) (l1_0 : List (S78)) (a1_1 : ByteArray) (r : Bool) (w : World) (hr0_0 : Kd.C k76 w A0_0 l0_0.length l0_0) (hc0_0 : l0_0.length ≤ c0_0) (hr1_0 : Kd.C k78 w A1_0 l1_0.length l1_0) (hc1_0 : l1_0.length ≤ c1_0) (h : bulletinlaw15_same.f k l0_0 a0_1 l1_0 a1_1 = some r) :
    Calls Tryz.prog 15 #[.agg #[.slice A0_0 l0_0.length c0_0, .string a0_1], .agg #[.slice A1_0 l1_0.length c1_0, .string a1_1]] w fun e w' => e = .returned (.bool r) ∧ Below w.heap.size w w' := by
  have hu25 := Tryz.underlying25
  have hu31 := Tryz.underlying31
  have HR0_0 := Aside0.mk hr0_0
  have HC0_0 := Aside0.mk hc0_0
  clear hr0_0 hc0_0
  have HR1_0 := Aside0.mk hr1_0
  have HC1_0 := Aside0.mk hc1_0
  clear hr1_0 hc1_0
  have HB := Aside0.mk (Below.refl w.heap.size w)
  have H : (if (l0_0.length : Int) = (l1_0.length : Int) then (bulletinlaw15_same.j0 k (a0_1.toList != a1_1.toList) l0_0 a0_1 l1_0 a1_1) else (bulletinlaw15_same.j0 k true l0_0 a0_1 l1_0 a1_1)) = some r := h
  clear h
  have HC3 := Aside0.mk H
  clear H
  go_enter Tryz.func15, Tryz.ntmps15
  go_upto_region 1 with (first | ((with_reducible refine gate_dst (N := 2) rfl ?_); refine box_event ?hg (N := 2) ?hd (cs := #[.slice A0_0 l0_0.length c0_0, .string a0_1]) (t := 25) ?hr ?_; (case hd => rfl); (case hg => rfl); (case hr => first | (go_simp; done) | (go_simp; rfl)); intro gb187 hg w4 hbox hb; have n0_ := Aside0.mk (below_step (by repeat (first | (with_reducible first | exact HB.out | apply below_alloc | apply pw_below_drewN | apply below_drew1) | exact HB.out)) hb); have n1_ := Aside0.mk (hbox); have n2_ := Aside0.mk ((by rw [hg]; exact (below_size (by repeat (first | (with_reducible first | exact HB.out | apply below_alloc | apply pw_below_drewN | apply below_drew1) | exact HB.out))) : w.heap.size ≤ gb187)); have n3_ := Aside0.mk ((by rw [hg]; exact (below_size (by repeat (first | (with_reducible first | exact HB.out | apply below_alloc | apply pw_below_drewN | apply below_drew1) | exact HB.out))) : w.heap.size ≤ gb187)); clear HB; have HB := n0_; have BK187 := n1_; have GW187 := n2_; have GE187 := n3_; clear n0_ n1_ n2_ n3_; clear hb hbox hg) | ((with_reducible refine gate_dst (N := 3) rfl ?_); refine box_event ?hg (N := 3) ?hd (cs := #[.slice A1_0 l1_0.length c1_0, .string a1_1]) (t := 31) ?hr ?_; (case hd => rfl); (case hg => rfl); (case hr => first | (go_simp; done) | (go_simp; rfl)); intro gb188 hg w5 hbox hb; have n0_ := Aside0.mk (blk_below (g := gb187) (o := .cells #[.slice A0_0 l0_0.length c0_0, .string a0_1] 25 (0, 0)) (by (with_reducible repeat (first | refine blk_drewN ?_ _ | refine blk_drew ?_ | refine blk_alloc ?_ _)); exact BK187.out) hb); have n1_ := Aside0.mk (below_step (by repeat (first | (with_reducible first | exact HB.out | apply below_alloc | apply pw_below_drewN | apply below_drew1 | refine below_set ?_ GE187.out) | exact HB.out)) hb); have n2_ := Aside0.mk (hbox); have n3_ := Aside0.mk ((by rw [hg]; exact (below_size (by repeat (first | (with_reducible first | exact HB.out | apply below_alloc | apply pw_below_drewN | apply below_drew1 | refine below_set ?_ GE187.out) | exact HB.out))) : w.heap.size ≤ gb188)); have n4_ := Aside0.mk ((by rw [hg]; exact (below_size (by repeat (first | (with_reducible first | exact HB.out | apply below_alloc | apply pw_below_drewN | apply below_drew1 | refine below_set ?_ GE187.out) | exact HB.out))) : w.heap.size ≤ gb188)); have n5_ := Aside0.mk ((by rw [hg]; exact Nat.ne_of_lt (blk_lt (g := gb187) (o := .cells #[.slice A0_0 l0_0.length c0_0, .string a0_1] 25 (0, 0)) (by (with_reducible repeat (first | refine blk_drewN ?_ _ | refine blk_drew ?_ | refine blk_alloc ?_ _)); exact BK187.out)) : gb187 ≠ gb188)); have n6_ := Aside0.mk ((by rw [hg]; exact Nat.ne_of_gt (blk_lt (g := gb187) (o := .cells #[.slice A0_0 l0_0.length c0_0, .string a0_1] 25 (0, 0)) (by (with_reducible repeat (first | refine blk_drewN ?_ _ | refine blk_drew ?_ | refine blk_alloc ?_ _)); exact BK187.out)) : gb188 ≠ gb187)); clear BK187; clear HB; have BK187 := n0_; have HB := n1_; have BK188 := n2_; have GW188 := n3_; have GE188 := n4_; have NB187_188 := n5_; have NB188_187 := n6_; clear n0_ n1_ n2_ n3_ n4_ n5_ n6_; clear hb hbox hg))
  repeat (go_quiet (first | ((with_reducible refine gate_dst (N := 2) rfl ?_); refine box_event ?hg (N := 2) ?hd (cs := #[.slice A0_0 l0_0.length c0_0, .string a0_1]) (t := 25) ?hr ?_; (case hd => rfl); (case hg => rfl); (case hr => first | (go_simp; done) | (go_simp; rfl)); intro gb187 hg w4 hbox hb; have n0_ := Aside0.mk (below_step (by repeat (first | (with_reducible first | exact HB.out | apply below_alloc | apply pw_below_drewN | apply below_drew1) | exact HB.out)) hb); have n1_ := Aside0.mk (hbox); have n2_ := Aside0.mk ((by rw [hg]; exact (below_size (by repeat (first | (with_reducible first | exact HB.out | apply below_alloc | apply pw_below_drewN | apply below_drew1) | exact HB.out))) : w.heap.size ≤ gb187)); have n3_ := Aside0.mk ((by rw [hg]; exact (below_size (by repeat (first | (with_reducible first | exact HB.out | apply below_alloc | apply pw_below_drewN | apply below_drew1) | exact HB.out))) : w.heap.size ≤ gb187)); clear HB; have HB := n0_; have BK187 := n1_; have GW187 := n2_; have GE187 := n3_; clear n0_ n1_ n2_ n3_; clear hb hbox hg) | ((with_reducible refine gate_dst (N := 3) rfl ?_); refine box_event ?hg (N := 3) ?hd (cs := #[.slice A1_0 l1_0.length c1_0, .string a1_1]) (t := 31) ?hr ?_; (case hd => rfl); (case hg => rfl); (case hr => first | (go_simp; done) | (go_simp; rfl)); intro gb188 hg w5 hbox hb; have n0_ := Aside0.mk (blk_below (g := gb187) (o := .cells #[.slice A0_0 l0_0.length c0_0, .string a0_1] 25 (0, 0)) (by (with_reducible repeat (first | refine blk_drewN ?_ _ | refine blk_drew ?_ | refine blk_alloc ?_ _)); exact BK187.out) hb); have n1_ := Aside0.mk (below_step (by repeat (first | (with_reducible first | exact HB.out | apply below_alloc | apply pw_below_drewN | apply below_drew1 | refine below_set ?_ GE187.out) | exact HB.out)) hb); have n2_ := Aside0.mk (hbox); have n3_ := Aside0.mk ((by rw [hg]; exact (below_size (by repeat (first | (with_reducible first | exact HB.out | apply below_alloc | apply pw_below_drewN | apply below_drew1 | refine below_set ?_ GE187.out) | exact HB.out))) : w.heap.size ≤ gb188)); have n4_ := Aside0.mk ((by rw [hg]; exact (below_size (by repeat (first | (with_reducible first | exact HB.out | apply below_alloc | apply pw_below_drewN | apply below_drew1 | refine below_set ?_ GE187.out) | exact HB.out))) : w.heap.size ≤ gb188)); have n5_ := Aside0.mk ((by rw [hg]; exact Nat.ne_of_lt (blk_lt (g := gb187) (o := .cells #[.slice A0_0 l0_0.length c0_0, .string a0_1] 25 (0, 0)) (by (with_reducible repeat (first | refine blk_drewN ?_ _ | refine blk_drew ?_ | refine blk_alloc ?_ _)); exact BK187.out)) : gb187 ≠ gb188)); have n6_ := Aside0.mk ((by rw [hg]; exact Nat.ne_of_gt (blk_lt (g := gb187) (o := .cells #[.slice A0_0 l0_0.length c0_0, .string a0_1] 25 (0, 0)) (by (with_reducible repeat (first | refine blk_drewN ?_ _ | refine blk_drew ?_ | refine blk_alloc ?_ _)); exact BK187.out)) : gb188 ≠ gb187)); clear BK187; clear HB; have BK187 := n0_; have HB := n1_; have BK188 := n2_; have GW188 := n3_; have GE188 := n4_; have NB187_188 := n5_; have NB188_187 := n6_; clear n0_ n1_ n2_ n3_ n4_ n5_ n6_; clear hb hbox hg)); go_upto_region 1 with (first | ((with_reducible refine gate_dst (N := 2) rfl ?_); refine box_event ?hg (N := 2) ?hd (cs := #[.slice A0_0 l0_0.length c0_0, .string a0_1]) (t := 25) ?hr ?_; (case hd => rfl); (case hg => rfl); (case hr => first | (go_simp; done) | (go_simp; rfl)); intro gb187 hg w4 hbox hb; have n0_ := Aside0.mk (below_step (by repeat (first | (with_reducible first | exact HB.out | apply below_alloc | apply pw_below_drewN | apply below_drew1) | exact HB.out)) hb); have n1_ := Aside0.mk (hbox); have n2_ := Aside0.mk ((by rw [hg]; exact (below_size (by repeat (first | (with_reducible first | exact HB.out | apply below_alloc | apply pw_below_drewN | apply below_drew1) | exact HB.out))) : w.heap.size ≤ gb187)); have n3_ := Aside0.mk ((by rw [hg]; exact (below_size (by repeat (first | (with_reducible first | exact HB.out | apply below_alloc | apply pw_below_drewN | apply below_drew1) | exact HB.out))) : w.heap.size ≤ gb187)); clear HB; have HB := n0_; have BK187 := n1_; have GW187 := n2_; have GE187 := n3_; clear n0_ n1_ n2_ n3_; clear hb hbox hg) | ((with_reducible refine gate_dst (N := 3) rfl ?_); refine box_event ?hg (N := 3) ?hd (cs := #[.slice A1_0 l1_0.length c1_0, .string a1_1]) (t := 31) ?hr ?_; (case hd => rfl); (case hg => rfl); (case hr => first | (go_simp; done) | (go_simp; rfl)); intro gb188 hg w5 hbox hb; have n0_ := Aside0.mk (blk_below (g := gb187) (o := .cells #[.slice A0_0 l0_0.length c0_0, .string a0_1] 25 (0, 0)) (by (with_reducible repeat (first | refine blk_drewN ?_ _ | refine blk_drew ?_ | refine blk_alloc ?_ _)); exact BK187.out) hb); have n1_ := Aside0.mk (below_step (by repeat (first | (with_reducible first | exact HB.out | apply below_alloc | apply pw_below_drewN | apply below_drew1 | refine below_set ?_ GE187.out) | exact HB.out)) hb); have n2_ := Aside0.mk (hbox); have n3_ := Aside0.mk ((by rw [hg]; exact (below_size (by repeat (first | (with_reducible first | exact HB.out | apply below_alloc | apply pw_below_drewN | apply below_drew1 | refine below_set ?_ GE187.out) | exact HB.out))) : w.heap.size ≤ gb188)); have n4_ := Aside0.mk ((by rw [hg]; exact (below_size (by repeat (first | (with_reducible first | exact HB.out | apply below_alloc | apply pw_below_drewN | apply below_drew1 | refine below_set ?_ GE187.out) | exact HB.out))) : w.heap.size ≤ gb188)); have n5_ := Aside0.mk ((by rw [hg]; exact Nat.ne_of_lt (blk_lt (g := gb187) (o := .cells #[.slice A0_0 l0_0.length c0_0, .string a0_1] 25 (0, 0)) (by (with_reducible repeat (first | refine blk_drewN ?_ _ | refine blk_drew ?_ | refine blk_alloc ?_ _)); exact BK187.out)) : gb187 ≠ gb188)); have n6_ := Aside0.mk ((by rw [hg]; exact Nat.ne_of_gt (blk_lt (g := gb187) (o := .cells #[.slice A0_0 l0_0.length c0_0, .string a0_1] 25 (0, 0)) (by (with_reducible repeat (first | refine blk_drewN ?_ _ | refine blk_drew ?_ | refine blk_alloc ?_ _)); exact BK187.out)) : gb188 ≠ gb187)); clear BK187; clear HB; have BK187 := n0_; have HB := n1_; have BK188 := n2_; have GW188 := n3_; have GE188 := n4_; have NB187_188 := n5_; have NB188_187 := n6_; clear n0_ n1_ n2_ n3_ n4_ n5_ n6_; clear hb hbox hg)))
  (try simp only [Act.put, List.setIfInBounds_toArray, List.set_cons_zero, List.set_cons_succ])
  go_cut [19] (fun v19 wc => ∃ (kq : Nat) (x19_2 : Bool), v19 = .bool x19_2 ∧ Aside0 (bulletinlaw15_same.j0 kq x19_2 l0_0 a0_1 l1_0 a1_1 = some r) ∧ Aside0 (kq ≤ k) ∧ Aside0 (wc.heap[gb187]? = some (.cells #[(.slice A0_0 l0_0.length c0_0), .string a0_1] 25 (0, 0))) ∧ Aside0 (wc.heap[gb188]? = some (.cells #[(.slice A1_0 l1_0.length c1_0), .string a1_1] 31 (0, 0))) ∧ Aside0 (Below w.heap.size w wc))
  case first =>
    have H := HC3.out
    clear HC3
    by_cases c6 : (l0_0.length : Int) = (l1_0.length : Int)
    · rw [if_pos c6] at H
      have c6b0 : ((l0_0.length : Int) == (l1_0.length : Int)) = true := beq_iff_eq.mpr c6
      have c6b1 : ((l0_0.length : Int) != (l1_0.length : Int)) = false := bne_eq_false_iff_eq.mpr c6
      have c6b2 : (l0_0.length == l1_0.length) = true := by first | simpa using c6 | (simp at c6 ⊢; omega)
      clear c6
      (first | rw [c6b0] | (simp only [i64_w, i32_w]; rw [c6b0]) | skip)
      have H' := Aside0.mk H
      clear H
      have hnb7 := NB187_188.out
      have hnc7 := NB188_187.out
      have hcz8_0 : w5.cell? ⟨gb187, 0, none⟩ = some (.slice A0_0 l0_0.length c0_0) := (blk_cell BK187.out 0).trans rfl
      have hcz8_1 : w5.cell? ⟨gb187, 1, none⟩ = some (.string a0_1) := (blk_cell BK187.out 1).trans rfl
      have hfz8_0 := blk_frozen BK187.out 0
      have hfz8_1 := blk_frozen BK187.out 1
      have hcz9_0 : w5.cell? ⟨gb188, 0, none⟩ = some (.slice A1_0 l1_0.length c1_0) := (blk_cell BK188.out 0).trans rfl
      have hcz9_1 : w5.cell? ⟨gb188, 1, none⟩ = some (.string a1_1) := (blk_cell BK188.out 1).trans rfl
      have hfz9_0 := blk_frozen BK188.out 0
      have hfz9_1 := blk_frozen BK188.out 1
      go_wp2
      repeat (go_quiet (fail); try go_wp2)
      go_meet
      case rel => exact ⟨_, ((a0_1.toList != a1_1.toList)), (by first | rfl | (simp; done) | (simp [*]; done)), H', ⟨by first | omega | exact Nat.le_refl _⟩, ⟨by (with_reducible repeat (first | refine blk_drewN ?_ _ | refine blk_drew ?_ | refine blk_alloc ?_ _)); exact BK187.out⟩, ⟨by (with_reducible repeat (first | refine blk_drewN ?_ _ | refine blk_drew ?_ | refine blk_alloc ?_ _)); exact BK188.out⟩, ⟨by repeat (first | (with_reducible first | exact HB.out | apply below_alloc | apply pw_below_drewN | apply below_drew1 | refine below_set ?_ GE187.out | refine below_set ?_ GE188.out) | exact HB.out)⟩⟩
    · rw [if_neg c6] at H
      have c6b0 : ((l0_0.length : Int) == (l1_0.length : Int)) = false := beq_eq_false_iff_ne.mpr c6
      have c6b1 : ((l0_0.length : Int) != (l1_0.length : Int)) = true := bne_iff_ne.mpr c6
      have c6b2 : (l0_0.length == l1_0.length) = false := by first | simpa using c6 | (simp at c6 ⊢; omega)
      (first | rw [c6b0] | (simp only [i64_w, i32_w]; rw [c6b0]) | skip)
      have H' := Aside0.mk H
      clear H
      have hnb10 := NB187_188.out
      have hnc10 := NB188_187.out
      have hcz11_0 : w5.cell? ⟨gb187, 0, none⟩ = some (.slice A0_0 l0_0.length c0_0) := (blk_cell BK187.out 0).trans rfl
      have hcz11_1 : w5.cell? ⟨gb187, 1, none⟩ = some (.string a0_1) := (blk_cell BK187.out 1).trans rfl
      have hfz11_0 := blk_frozen BK187.out 0
      have hfz11_1 := blk_frozen BK187.out 1
      have hcz12_0 : w5.cell? ⟨gb188, 0, none⟩ = some (.slice A1_0 l1_0.length c1_0) := (blk_cell BK188.out 0).trans rfl
      have hcz12_1 : w5.cell? ⟨gb188, 1, none⟩ = some (.string a1_1) := (blk_cell BK188.out 1).trans rfl
      have hfz12_0 := blk_frozen BK188.out 0
      have hfz12_1 := blk_frozen BK188.out 1
      go_wp2
      repeat (go_quiet (fail); try go_wp2)
      go_meet
      case rel => exact ⟨_, (true), (by first | rfl | (simp; done) | (simp [*]; done)), H', ⟨by first | omega | exact Nat.le_refl _⟩, ⟨by (with_reducible repeat (first | refine blk_drewN ?_ _ | refine blk_drew ?_ | refine blk_alloc ?_ _)); exact BK187.out⟩, ⟨by (with_reducible repeat (first | refine blk_drewN ?_ _ | refine blk_drew ?_ | refine blk_alloc ?_ _)); exact BK188.out⟩, ⟨by repeat (first | (with_reducible first | exact HB.out | apply below_alloc | apply pw_below_drewN | apply below_drew1 | refine below_set ?_ GE187.out | refine below_set ?_ GE188.out) | exact HB.out)⟩⟩
  case rest =>
    clear HC3
    try clear c1
    try clear p2
    try clear c6
    try clear c6b0
    try clear c6b1
    try clear c6b2
    try clear c7
    try clear c10
    try clear hcz11_0
    try clear hcz11_1
    try clear hcz12_0
    try clear hcz12_1
    try clear hcz8_0
    try clear hcz8_1
    try clear hcz9_0
    try clear hcz9_1
    try clear hfz11_0
    try clear hfz11_1
    try clear hfz12_0
    try clear hfz12_1
    try clear hfz8_0
    try clear hfz8_1
    try clear hfz9_0
    try clear hfz9_1
    obtain ⟨kq, x19_2, rfl, HA, HJ2, BK187, BK188, HB⟩ := hcut
    cases kq with
    | zero => exact absurd HA.out (by simp [bulletinlaw15_same.j0])
    | succ kj2 =>
      have H := HA.out
      clear HA
      simp only [bulletinlaw15_same.j0] at H
      by_cases c13 : x19_2 = true
      · subst c13
        have H1 : (some false) = some r := by rw [if_pos rfl] at H; exact H
        clear H
        have H := H1
        clear H1
        obtain rfl := Option.some.inj H
        go_wp2
        repeat (go_quiet (fail); try go_wp2)
        go_ret
        exact ⟨by first | rfl | (simp [errW_none, errW_some] <;> rfl) | (simp [*, errW_none, errW_some] <;> rfl), by repeat (first | (with_reducible first | exact HB.out | apply below_alloc | apply pw_below_drewN | apply below_drew1 | refine below_set ?_ GE187.out | refine below_set ?_ GE188.out) | exact HB.out)⟩
      · replace c13 := Bool.eq_false_iff.mpr c13
        subst c13
        have H1 : (bulletinlaw15_same.l0 kj2 0 l0_0 a0_1 l1_0 a1_1) = some r := by rw [if_neg (show ¬ (false = true) by decide)] at H; exact H
        clear H
        have H := H1
        clear H1
        have H' := Aside0.mk H
        clear H
        go_wp2
        repeat (go_quiet (fail); try go_wp2)
        go_loopg [5] kj2 (fun kq v5 w' => ∃ (x5_2 : Int), v5 = .int .i64 x5_2 ∧ Aside0 (bulletinlaw15_same.l0 kq x5_2 l0_0 a0_1 l1_0 a1_1 = some r) ∧ Aside0 (kq ≤ kj2) ∧ Aside0 (w'.heap[gb187]? = some (.cells #[(.slice A0_0 l0_0.length c0_0), .string a0_1] 25 (0, 0))) ∧ Aside0 (w'.heap[gb188]? = some (.cells #[(.slice A1_0 l1_0.length c1_0), .string a1_1] 31 (0, 0))) ∧ Aside0 (Below w.heap.size w w'))
        case atStart => exact ⟨(0), (by first | rfl | (simp; done) | (simp [*]; done)), H', ⟨Nat.le_refl _⟩, ⟨by (with_reducible repeat (first | refine blk_drewN ?_ _ | refine blk_drew ?_ | refine blk_alloc ?_ _)); exact BK187.out⟩, ⟨by (with_reducible repeat (first | refine blk_drewN ?_ _ | refine blk_drew ?_ | refine blk_alloc ?_ _)); exact BK188.out⟩, ⟨by repeat (first | (with_reducible first | exact HB.out | apply below_alloc | apply pw_below_drewN | apply below_drew1 | refine below_set ?_ GE187.out | refine below_set ?_ GE188.out) | exact HB.out)⟩⟩
        case round =>
          clear H'
          try clear c1
          try clear p2
          try clear c6
          try clear c6b0
          try clear c6b1
          try clear c6b2
          try clear c7
          try clear c10
          try clear c13
          try clear hcz11_0
          try clear hcz11_1
          try clear hcz12_0
          try clear hcz12_1
          try clear hcz8_0
          try clear hcz8_1
          try clear hcz9_0
          try clear hcz9_1
          try clear hfz11_0
          try clear hfz11_1
          try clear hfz12_0
          try clear hfz12_1
          try clear hfz8_0
          try clear hfz8_1
          try clear hfz9_0
          try clear hfz9_1
          try clear p2
          obtain ⟨x5_2, rfl, HA, HK2, BK187, BK188, HB⟩ := hrel
          cases gk with
          | zero => exact absurd HA.out (by simp [bulletinlaw15_same.l0])
          | succ k2 =>
            have H := HA.out
            clear HA
            simp only [bulletinlaw15_same.l0] at H
            by_cases c14 : x5_2 < (l0_0.length : Int)
            · rw [if_pos c14] at H
              have c14b0 : decide (x5_2 < (l0_0.length : Int)) = true := decide_eq_true c14
              clear c14
              by_cases c15 : 0 ≤ x5_2
              · rw [if_pos c15] at H
                have c15b0 : decide (0 ≤ x5_2) = true := decide_eq_true c15
                clear c15
                by_cases c16 : x5_2 < (l1_0.length : Int)
                · rw [if_pos c16] at H
                  have c16b0 : decide (x5_2 < (l1_0.length : Int)) = true := decide_eq_true c16
                  clear c16
                  by_cases c17 : ((rd_T76 l0_0 x5_2).f0).toList = ((rd_T78 l1_0 x5_2).f0).toList
                  · rw [if_pos c17] at H
                    have c17b0 : (((rd_T76 l0_0 x5_2).f0).toList == ((rd_T78 l1_0 x5_2).f0).toList) = true := beq_iff_eq.mpr c17
                    have c17b1 : (((rd_T76 l0_0 x5_2).f0).toList != ((rd_T78 l1_0 x5_2).f0).toList) = false := bne_eq_false_iff_eq.mpr c17
                    clear c17
                    by_cases c18 : ((rd_T76 l0_0 x5_2).f1).toList = ((rd_T78 l1_0 x5_2).f1).toList
                    · rw [if_pos c18] at H
                      have c18b0 : (((rd_T76 l0_0 x5_2).f1).toList == ((rd_T78 l1_0 x5_2).f1).toList) = true := beq_iff_eq.mpr c18
                      have c18b1 : (((rd_T76 l0_0 x5_2).f1).toList != ((rd_T78 l1_0 x5_2).f1).toList) = false := bne_eq_false_iff_eq.mpr c18
                      clear c18
                      have H' := Aside0.mk H
                      clear H
                      have hnb19 := NB187_188.out
                      have hnc19 := NB188_187.out
                      have hcz20_0 : wr.cell? ⟨gb187, 0, none⟩ = some (.slice A0_0 l0_0.length c0_0) := (blk_cell BK187.out 0).trans rfl
                      have hcz20_1 : wr.cell? ⟨gb187, 1, none⟩ = some (.string a0_1) := (blk_cell BK187.out 1).trans rfl
                      have hfz20_0 := blk_frozen BK187.out 0
                      have hfz20_1 := blk_frozen BK187.out 1
                      have p189 : 0 ≤ (x5_2 : Int) := of_decide_eq_true (by first | (with_reducible assumption) | assumption)
                      have q189 : x5_2 < (l0_0.length : Int) := of_decide_eq_true (by first | (with_reducible assumption) | assumption)
                      obtain ⟨ad189, e189, hx189_0, hx189_1⟩ := at_T76 HR0_0.out x5_2 p189 q189
                      cases e189
                      replace hx189_0 := (HB.out.cell (World.block_lt_of_cell? w _ hx189_0)).trans hx189_0
                      replace hx189_1 := (HB.out.cell (World.block_lt_of_cell? w _ hx189_1)).trans hx189_1
                      replace p189 := eq_true p189
                      replace q189 := eq_true q189
                      have hcz21_0 : wr.cell? ⟨gb188, 0, none⟩ = some (.slice A1_0 l1_0.length c1_0) := (blk_cell BK188.out 0).trans rfl
                      have hcz21_1 : wr.cell? ⟨gb188, 1, none⟩ = some (.string a1_1) := (blk_cell BK188.out 1).trans rfl
                      have hfz21_0 := blk_frozen BK188.out 0
                      have hfz21_1 := blk_frozen BK188.out 1
                      have p190 : 0 ≤ (x5_2 : Int) := of_decide_eq_true (by first | (with_reducible assumption) | assumption)
                      have q190 : x5_2 < (l1_0.length : Int) := of_decide_eq_true (by first | (with_reducible assumption) | assumption)
                      obtain ⟨ad190, e190, hx190_0, hx190_1⟩ := at_T78 HR1_0.out x5_2 p190 q190
                      cases e190
                      replace hx190_0 := (HB.out.cell (World.block_lt_of_cell? w _ hx190_0)).trans hx190_0
                      replace hx190_1 := (HB.out.cell (World.block_lt_of_cell? w _ hx190_1)).trans hx190_1
                      replace p190 := eq_true p190
                      replace q190 := eq_true q190
                      have p191 : 0 ≤ (x5_2 : Int) := of_decide_eq_true (by first | (with_reducible assumption) | assumption)
                      have q191 : x5_2 < (l0_0.length : Int) := of_decide_eq_true (by first | (with_reducible assumption) | assumption)
                      obtain ⟨ad191, e191, hx191_0, hx191_1⟩ := at_T76 HR0_0.out x5_2 p191 q191
                      obtain rfl : ad189 = ad191 := (by injection e191)
                      replace hx191_0 := (HB.out.cell (World.block_lt_of_cell? w _ hx191_0)).trans hx191_0
                      replace hx191_1 := (HB.out.cell (World.block_lt_of_cell? w _ hx191_1)).trans hx191_1
                      replace p191 := eq_true p191
                      replace q191 := eq_true q191
                      have p192 : 0 ≤ (x5_2 : Int) := of_decide_eq_true (by first | (with_reducible assumption) | assumption)
                      have q192 : x5_2 < (l1_0.length : Int) := of_decide_eq_true (by first | (with_reducible assumption) | assumption)
                      obtain ⟨ad192, e192, hx192_0, hx192_1⟩ := at_T78 HR1_0.out x5_2 p192 q192
                      obtain rfl : ad190 = ad192 := (by injection e192)
                      replace hx192_0 := (HB.out.cell (World.block_lt_of_cell? w _ hx192_0)).trans hx192_0
                      replace hx192_1 := (HB.out.cell (World.block_lt_of_cell? w _ hx192_1)).trans hx192_1
                      replace p192 := eq_true p192
                      replace q192 := eq_true q192
                      go_wp2
                      repeat (go_quiet (fail); try go_wp2)
                      go_roundg k2
                      case measure => have := HJ2.out; have := HK2.out; omega
                      case rel => exact ⟨(wrap64 (x5_2 + 1)), (by first | rfl | (simp; done) | (simp [*]; done)), H', ⟨by have := HJ2.out; have := HK2.out; omega⟩, ⟨by (with_reducible repeat (first | refine blk_drewN ?_ _ | refine blk_drew ?_ | refine blk_alloc ?_ _)); exact BK187.out⟩, ⟨by (with_reducible repeat (first | refine blk_drewN ?_ _ | refine blk_drew ?_ | refine blk_alloc ?_ _)); exact BK188.out⟩, ⟨by repeat (first | (with_reducible first | exact HB.out | apply below_alloc | apply pw_below_drewN | apply below_drew1 | refine below_set ?_ GE187.out | refine below_set ?_ GE188.out) | exact HB.out)⟩⟩
                    · rw [if_neg c18] at H
                      have c18b0 : (((rd_T76 l0_0 x5_2).f1).toList == ((rd_T78 l1_0 x5_2).f1).toList) = false := beq_eq_false_iff_ne.mpr c18
                      have c18b1 : (((rd_T76 l0_0 x5_2).f1).toList != ((rd_T78 l1_0 x5_2).f1).toList) = true := bne_iff_ne.mpr c18
                      obtain rfl := Option.some.inj H
                      have hnb22 := NB187_188.out
                      have hnc22 := NB188_187.out
                      have hcz23_0 : wr.cell? ⟨gb187, 0, none⟩ = some (.slice A0_0 l0_0.length c0_0) := (blk_cell BK187.out 0).trans rfl
                      have hcz23_1 : wr.cell? ⟨gb187, 1, none⟩ = some (.string a0_1) := (blk_cell BK187.out 1).trans rfl
                      have hfz23_0 := blk_frozen BK187.out 0
                      have hfz23_1 := blk_frozen BK187.out 1
                      have p189 : 0 ≤ (x5_2 : Int) := of_decide_eq_true (by first | (with_reducible assumption) | assumption)
                      have q189 : x5_2 < (l0_0.length : Int) := of_decide_eq_true (by first | (with_reducible assumption) | assumption)
                      obtain ⟨ad189, e189, hx189_0, hx189_1⟩ := at_T76 HR0_0.out x5_2 p189 q189
                      cases e189
                      replace hx189_0 := (HB.out.cell (World.block_lt_of_cell? w _ hx189_0)).trans hx189_0
                      replace hx189_1 := (HB.out.cell (World.block_lt_of_cell? w _ hx189_1)).trans hx189_1
                      replace p189 := eq_true p189
                      replace q189 := eq_true q189
                      have hcz24_0 : wr.cell? ⟨gb188, 0, none⟩ = some (.slice A1_0 l1_0.length c1_0) := (blk_cell BK188.out 0).trans rfl
                      have hcz24_1 : wr.cell? ⟨gb188, 1, none⟩ = some (.string a1_1) := (blk_cell BK188.out 1).trans rfl
                      have hfz24_0 := blk_frozen BK188.out 0
                      have hfz24_1 := blk_frozen BK188.out 1
                      have p190 : 0 ≤ (x5_2 : Int) := of_decide_eq_true (by first | (with_reducible assumption) | assumption)
                      have q190 : x5_2 < (l1_0.length : Int) := of_decide_eq_true (by first | (with_reducible assumption) | assumption)
                      obtain ⟨ad190, e190, hx190_0, hx190_1⟩ := at_T78 HR1_0.out x5_2 p190 q190
                      cases e190
                      replace hx190_0 := (HB.out.cell (World.block_lt_of_cell? w _ hx190_0)).trans hx190_0
                      replace hx190_1 := (HB.out.cell (World.block_lt_of_cell? w _ hx190_1)).trans hx190_1
                      replace p190 := eq_true p190
                      replace q190 := eq_true q190
                      have p191 : 0 ≤ (x5_2 : Int) := of_decide_eq_true (by first | (with_reducible assumption) | assumption)
                      have q191 : x5_2 < (l0_0.length : Int) := of_decide_eq_true (by first | (with_reducible assumption) | assumption)
                      obtain ⟨ad191, e191, hx191_0, hx191_1⟩ := at_T76 HR0_0.out x5_2 p191 q191
                      obtain rfl : ad189 = ad191 := (by injection e191)
                      replace hx191_0 := (HB.out.cell (World.block_lt_of_cell? w _ hx191_0)).trans hx191_0
                      replace hx191_1 := (HB.out.cell (World.block_lt_of_cell? w _ hx191_1)).trans hx191_1
                      replace p191 := eq_true p191
                      replace q191 := eq_true q191
                      have p192 : 0 ≤ (x5_2 : Int) := of_decide_eq_true (by first | (with_reducible assumption) | assumption)
                      have q192 : x5_2 < (l1_0.length : Int) := of_decide_eq_true (by first | (with_reducible assumption) | assumption)
                      obtain ⟨ad192, e192, hx192_0, hx192_1⟩ := at_T78 HR1_0.out x5_2 p192 q192
                      obtain rfl : ad190 = ad192 := (by injection e192)
                      replace hx192_0 := (HB.out.cell (World.block_lt_of_cell? w _ hx192_0)).trans hx192_0
                      replace hx192_1 := (HB.out.cell (World.block_lt_of_cell? w _ hx192_1)).trans hx192_1
                      replace p192 := eq_true p192
                      replace q192 := eq_true q192
                      go_wp2
                      repeat (go_quiet (fail); try go_wp2)
                      go_ret
                      exact ⟨by first | rfl | (simp [errW_none, errW_some] <;> rfl) | (simp [*, errW_none, errW_some] <;> rfl), by repeat (first | (with_reducible first | exact HB.out | apply below_alloc | apply pw_below_drewN | apply below_drew1 | refine below_set ?_ GE187.out | refine below_set ?_ GE188.out) | exact HB.out)⟩
                  · rw [if_neg c17] at H
                    have c17b0 : (((rd_T76 l0_0 x5_2).f0).toList == ((rd_T78 l1_0 x5_2).f0).toList) = false := beq_eq_false_iff_ne.mpr c17
                    have c17b1 : (((rd_T76 l0_0 x5_2).f0).toList != ((rd_T78 l1_0 x5_2).f0).toList) = true := bne_iff_ne.mpr c17
                    obtain rfl := Option.some.inj H
                    have hnb25 := NB187_188.out
                    have hnc25 := NB188_187.out
                    have hcz26_0 : wr.cell? ⟨gb187, 0, none⟩ = some (.slice A0_0 l0_0.length c0_0) := (blk_cell BK187.out 0).trans rfl
                    have hcz26_1 : wr.cell? ⟨gb187, 1, none⟩ = some (.string a0_1) := (blk_cell BK187.out 1).trans rfl
                    have hfz26_0 := blk_frozen BK187.out 0
                    have hfz26_1 := blk_frozen BK187.out 1
                    have p189 : 0 ≤ (x5_2 : Int) := of_decide_eq_true (by first | (with_reducible assumption) | assumption)
                    have q189 : x5_2 < (l0_0.length : Int) := of_decide_eq_true (by first | (with_reducible assumption) | assumption)
                    obtain ⟨ad189, e189, hx189_0, hx189_1⟩ := at_T76 HR0_0.out x5_2 p189 q189
                    cases e189
                    replace hx189_0 := (HB.out.cell (World.block_lt_of_cell? w _ hx189_0)).trans hx189_0
                    replace hx189_1 := (HB.out.cell (World.block_lt_of_cell? w _ hx189_1)).trans hx189_1
                    replace p189 := eq_true p189
                    replace q189 := eq_true q189
                    have hcz27_0 : wr.cell? ⟨gb188, 0, none⟩ = some (.slice A1_0 l1_0.length c1_0) := (blk_cell BK188.out 0).trans rfl
                    have hcz27_1 : wr.cell? ⟨gb188, 1, none⟩ = some (.string a1_1) := (blk_cell BK188.out 1).trans rfl
                    have hfz27_0 := blk_frozen BK188.out 0
                    have hfz27_1 := blk_frozen BK188.out 1
                    have p190 : 0 ≤ (x5_2 : Int) := of_decide_eq_true (by first | (with_reducible assumption) | assumption)
                    have q190 : x5_2 < (l1_0.length : Int) := of_decide_eq_true (by first | (with_reducible assumption) | assumption)
                    obtain ⟨ad190, e190, hx190_0, hx190_1⟩ := at_T78 HR1_0.out x5_2 p190 q190
                    cases e190
                    replace hx190_0 := (HB.out.cell (World.block_lt_of_cell? w _ hx190_0)).trans hx190_0
                    replace hx190_1 := (HB.out.cell (World.block_lt_of_cell? w _ hx190_1)).trans hx190_1
                    replace p190 := eq_true p190
                    replace q190 := eq_true q190
                    go_wp2
                    repeat (go_quiet (fail); try go_wp2)
                    go_ret
                    exact ⟨by first | rfl | (simp [errW_none, errW_some] <;> rfl) | (simp [*, errW_none, errW_some] <;> rfl), by repeat (first | (with_reducible first | exact HB.out | apply below_alloc | apply pw_below_drewN | apply below_drew1 | refine below_set ?_ GE187.out | refine below_set ?_ GE188.out) | exact HB.out)⟩
                · rw [if_neg c16] at H
                  exact absurd H (by simp)
              · rw [if_neg c15] at H
                exact absurd H (by simp)
            · rw [if_neg c14] at H
              have c14b0 : decide (x5_2 < (l0_0.length : Int)) = false := decide_eq_false c14
              clear c14
              obtain rfl := Option.some.inj H
              have hnb28 := NB187_188.out
              have hnc28 := NB188_187.out
              have hcz29_0 : wr.cell? ⟨gb187, 0, none⟩ = some (.slice A0_0 l0_0.length c0_0) := (blk_cell BK187.out 0).trans rfl
              have hcz29_1 : wr.cell? ⟨gb187, 1, none⟩ = some (.string a0_1) := (blk_cell BK187.out 1).trans rfl
              have hfz29_0 := blk_frozen BK187.out 0
              have hfz29_1 := blk_frozen BK187.out 1
              go_wp2
              repeat (go_quiet (fail); try go_wp2)
              go_ret
              exact ⟨by first | rfl | (simp [errW_none, errW_some] <;> rfl) | (simp [*, errW_none, errW_some] <;> rfl), by repeat (first | (with_reducible first | exact HB.out | apply below_alloc | apply pw_below_drewN | apply below_drew1 | refine below_set ?_ GE187.out | refine below_set ?_ GE188.out) | exact HB.out)⟩

-- NOT PRINTED: function 3 (bulletinlaw15_ArticleParses)

-- NOT PRINTED: function 4 (bulletinlaw15_ArticleBodies)

end Go.Proofs.YtfeciafdioepiaaGreatDoor.PA
set_option linter.unusedVariables false
set_option linter.unusedSimpArgs false
namespace Go.Proofs.YtfeciafdioepiaaGreatDoor
open Go.RowKit Go.Proofs Go.Proofs.YtfeciafdioepiaaGreatDoorW.PrintWords Go.Proofs.YtfeciafdioepiaaGreatDoorW.PrintMore Go.Proofs.YtfeciafdioepiaaGreatDoor.PA

theorem BufAt.zeros (w : World) (n : Nat) : BufAt (w.alloc (.cells (List.replicate n (.int .u8 0)).toArray 5)) w.heap.size (List.replicate n 0) := by
  have hb := heap_alloc_last w (.cells (List.replicate n (.int .u8 0)).toArray 5)
  refine ⟨by simp, fun j hj => ?_, fun j hj => blk_frozen hb j⟩
  rw [List.length_replicate] at hj
  refine (blk_cell hb j).trans ?_
  simp [List.getD_eq_getElem?_getD, List.getElem?_replicate, hj]
theorem or_zero (v : Nat) (h : v < 256) : bits BinOp.or IntKind.u8 0 (v : Int) = (v : Int) := by
  have key : ∀ c : UInt8, bits BinOp.or IntKind.u8 0 (c.toNat : Int) = (c.toNat : Int) := by
    refine fun c => all_u8 (P := fun c => bits BinOp.or IntKind.u8 0 (c.toNat : Int) = (c.toNat : Int)) ?_ c
    decide +kernel
  have := key (UInt8.ofNat v)
  rwa [UInt8.toNat_ofNat', Nat.mod_eq_of_lt h] at this

theorem make_1 (w : World) : (Instr.makeSlice 44 (.int .i64 1) (.int .i64 1)).run Tryz.prog w = .ok (.slice (some ⟨w.heap.size, 0, none⟩) 1 1) (w.alloc (.cells #[.int .u8 0] 5)) := by
  obtain ⟨i0, hi, hz0, hz1, hz2⟩ := info_parts infoByte
  rw [run_make w 44 5 i0 _ Tryz.underlying44 hi hz0 .i64 .i64 1 1 (by decide) (by decide) (by rw [hz2]; decide) (by decide), hz1, show madeCells (Value.int IntKind.u8 0).cells (((1 : Int)).toNat * 1) = #[.int .u8 0] from by kernel_rfl]
  rfl
def encL1 (v : Nat) : List UInt8 := [UInt8.ofNat (v)]
set_option maxHeartbeats 2000000 in
set_option maxRecDepth 100000 in
theorem encode_1 (v : Nat) (w : World) (h1 : 0 ≤ v) (h2 : v ≤ 127) (h3 : v < 55296 ∨ 57343 < v) : Calls Tryz.prog 67 #[.int .i32 v] w fun e w' => e = .returned (.tuple #[.string (mkS (encL1 v)), .int .i64 0]) ∧ Below w.heap.size w w' := by
  have mk := make_1
  have hnot : bits BinOp.andNot IntKind.u8 0 127 = 0 := by decide
  have i0 := cls_at0
  go_enter Tryz.func67, Tryz.ntmps67
  go_wp2_with (go_at_call 93; refine (classes_any _).mono ?_; rintro e w1 ⟨rfl, hb⟩)
  have HB := Aside0.mk hb
  clear hb
  go_loopw [0, 9] (fun v0 v9 wr => ∃ k : Nat, k ≤ 0 ∧ v9 = .int .i64 k ∧ v0 = .int .i32 v ∧ Aside0 (Below w.heap.size w wr)) (fun _ v9 _ => 4 - (intOf v9).toNat)
  case atStart => exact ⟨0, by omega, rfl, rfl, ⟨HB.out⟩⟩
  case round =>
    obtain ⟨k, hk, rfl, rfl, HW⟩ := hrel
    have hk5 : k = 0 := by omega
    rcases hk5 with rfl
    · have hq : utf8_class_within.f 0 127 127 0 127 (v : Int) = some true := by
        unfold utf8_class_within.f; rw [if_pos (by omega), if_pos (by omega)]
        by_cases hv : (v : Int) < 55296
        · rw [if_pos hv]
        · rw [if_neg hv, decide_eq_true (by omega)]
      have Hq := Lib.hid hq
      clear hq
      have hbk := heap_alloc_last wr (.cells #[.int .u8 0, .int .u8 127, .int .u8 127, .int .i32 0, .int .i32 127] 130)
      have HBK := Aside0.mk hbk
      clear hbk
      go_wp2_with (go_at_call 94; refine (utf8_class_within.calls _ _ _ _ _ _ true _ Hq.out).mono ?_; rintro e w2 ⟨rfl, hb2⟩; have HB2 := Aside0.mk hb2; clear hb2)
      have HW2 : Aside0 (Below w.heap.size w w2) := ⟨(HW.out.alloc HW.out.size _).trans (HB2.out.mono (HW.out.alloc HW.out.size _).size)⟩
      have hbk2 : w2.heap[wr.heap.size]? = some (.cells #[.int .u8 0, .int .u8 127, .int .u8 127, .int .i32 0, .int .i32 127] 130 (0, 0)) := (HB2.out.block _ (by simp)).trans HBK.out
      have hlt2 : wr.heap.size < w2.heap.size := (Array.getElem?_eq_some_iff.1 hbk2).1
      have HBK2 := Aside0.mk hbk2
      have Hlt2 := Lib.hid hlt2
      clear hbk2 hlt2
      go_loopw [0, 7] (fun v0 v7 wi => ∃ j : Nat, j ≤ 0 ∧ v7 = .int .i64 j ∧ Aside0 (wi.heap[wr.heap.size]? = some (.cells #[.int .u8 0, .int .u8 127, .int .u8 127, .int .i32 0, .int .i32 127] 130 (0, 0))) ∧ Aside0 (Below w.heap.size w wi) ∧ ((j = 0 ∧ v0 = .int .i32 (((v : Nat) : Int)) ∧ Aside0 (BufAt wi w2.heap.size [0])))) (fun _ v7 _ => (intOf v7).toNat)
      case atStart =>
        refine ⟨0, by omega, rfl, ⟨blk_alloc HBK2.out _⟩, ⟨HW2.out.alloc HW2.out.size _⟩, ⟨rfl, rfl, ⟨BufAt.zeros w2 1⟩⟩⟩
      case round =>
        obtain ⟨j, hj, rfl, HC, HWi, hst⟩ := hrel
        rcases hst with ⟨rfl, rfl, HBuf⟩
        · have hcl := (blk_cell HC.out 0).trans rfl
          have hcm := (blk_cell HC.out 2).trans rfl
          have hbc := HBuf.out.cell 0 (by simp)
          have hbf := HBuf.out.free 0 (by simp)
          have hx : ((UInt8.ofNat (v)).toNat : Int) = (v : Int) := by rw [UInt8.toNat_ofNat']; omega
          have hset := HBuf.out.set (k := 0) (by simp) (UInt8.ofNat (v))
          rw [hx] at hset
          have hs := hset.string (by simp) 1
          have hs2 : (convert 44 9 (.slice (some ⟨w2.heap.size, 0, none⟩) 1 1)).run Tryz.prog (wr.setCell ⟨w2.heap.size, 0, none⟩ (.int .u8 ((v : Int)))) = .ok (.string (mkS (encL1 v))) (wr.setCell ⟨w2.heap.size, 0, none⟩ (.int .u8 ((v : Int)))) := hs
          have Hlt := Lib.hid (Nat.le_of_lt (Nat.lt_of_le_of_lt HW.out.size Hlt2.out))
          clear hset hs hx
          have hor0 := or_zero v (by omega)
          go_wp2
          go_ret2
          exact ⟨rfl, HWi.out.setCell (p := ⟨w2.heap.size, 0, none⟩) Hlt.out _⟩

theorem make_2 (w : World) : (Instr.makeSlice 44 (.int .i64 2) (.int .i64 2)).run Tryz.prog w = .ok (.slice (some ⟨w.heap.size, 0, none⟩) 2 2) (w.alloc (.cells #[.int .u8 0, .int .u8 0] 5)) := by
  obtain ⟨i0, hi, hz0, hz1, hz2⟩ := info_parts infoByte
  rw [run_make w 44 5 i0 _ Tryz.underlying44 hi hz0 .i64 .i64 2 2 (by decide) (by decide) (by rw [hz2]; decide) (by decide), hz1, show madeCells (Value.int IntKind.u8 0).cells (((2 : Int)).toNat * 1) = #[.int .u8 0, .int .u8 0] from by kernel_rfl]
  rfl
def encL2 (v : Nat) : List UInt8 := [UInt8.ofNat (192 + v / 64), UInt8.ofNat (128 + v % 64)]
set_option maxHeartbeats 2000000 in
set_option maxRecDepth 100000 in
theorem encode_2 (v : Nat) (w : World) (h1 : 128 ≤ v) (h2 : v ≤ 2047) (h3 : v < 55296 ∨ 57343 < v) : Calls Tryz.prog 67 #[.int .i32 v] w fun e w' => e = .returned (.tuple #[.string (mkS (encL2 v)), .int .i64 0]) ∧ Below w.heap.size w w' := by
  have mk := make_2
  have hnot : bits BinOp.andNot IntKind.u8 194 31 = 192 := by decide
  have i0 := cls_at0
  have i1 := cls_at1
  go_enter Tryz.func67, Tryz.ntmps67
  go_wp2_with (go_at_call 93; refine (classes_any _).mono ?_; rintro e w1 ⟨rfl, hb⟩)
  have HB := Aside0.mk hb
  clear hb
  go_loopw [0, 9] (fun v0 v9 wr => ∃ k : Nat, k ≤ 1 ∧ v9 = .int .i64 k ∧ v0 = .int .i32 v ∧ Aside0 (Below w.heap.size w wr)) (fun _ v9 _ => 4 - (intOf v9).toNat)
  case atStart => exact ⟨0, by omega, rfl, rfl, ⟨HB.out⟩⟩
  case round =>
    obtain ⟨k, hk, rfl, rfl, HW⟩ := hrel
    have hk5 : k = 0 ∨ k = 1 := by omega
    rcases hk5 with rfl | rfl
    · have hq : utf8_class_within.f 0 127 127 0 127 (v : Int) = some false := by unfold utf8_class_within.f; rw [if_pos (by omega), if_neg (by omega)]
      have Hq := Lib.hid hq
      clear hq
      go_wp2_with (go_at_call 94; refine (utf8_class_within.calls _ _ _ _ _ _ false _ Hq.out).mono ?_; rintro e w2 ⟨rfl, hb2⟩; have HB2 := Aside0.mk hb2; clear hb2)
      go_roundw
      case rel => exact ⟨1, by omega, rfl, rfl, ⟨(HW.out.alloc HW.out.size _).trans (HB2.out.mono (HW.out.alloc HW.out.size _).size)⟩⟩
      case measure => simp [intOf]
    · have hq : utf8_class_within.f 194 223 31 128 2047 (v : Int) = some true := by
        unfold utf8_class_within.f; rw [if_pos (by omega), if_pos (by omega)]
        by_cases hv : (v : Int) < 55296
        · rw [if_pos hv]
        · rw [if_neg hv, decide_eq_true (by omega)]
      have Hq := Lib.hid hq
      clear hq
      have hbk := heap_alloc_last wr (.cells #[.int .u8 194, .int .u8 223, .int .u8 31, .int .i32 128, .int .i32 2047] 130)
      have HBK := Aside0.mk hbk
      clear hbk
      go_wp2_with (go_at_call 94; refine (utf8_class_within.calls _ _ _ _ _ _ true _ Hq.out).mono ?_; rintro e w2 ⟨rfl, hb2⟩; have HB2 := Aside0.mk hb2; clear hb2)
      have HW2 : Aside0 (Below w.heap.size w w2) := ⟨(HW.out.alloc HW.out.size _).trans (HB2.out.mono (HW.out.alloc HW.out.size _).size)⟩
      have hbk2 : w2.heap[wr.heap.size]? = some (.cells #[.int .u8 194, .int .u8 223, .int .u8 31, .int .i32 128, .int .i32 2047] 130 (0, 0)) := (HB2.out.block _ (by simp)).trans HBK.out
      have hlt2 : wr.heap.size < w2.heap.size := (Array.getElem?_eq_some_iff.1 hbk2).1
      have HBK2 := Aside0.mk hbk2
      have Hlt2 := Lib.hid hlt2
      clear hbk2 hlt2
      go_loopw [0, 7] (fun v0 v7 wi => ∃ j : Nat, j ≤ 1 ∧ v7 = .int .i64 j ∧ Aside0 (wi.heap[wr.heap.size]? = some (.cells #[.int .u8 194, .int .u8 223, .int .u8 31, .int .i32 128, .int .i32 2047] 130 (0, 0))) ∧ Aside0 (Below w.heap.size w wi) ∧ ((j = 0 ∧ v0 = .int .i32 (((v / 64 : Nat) : Int)) ∧ Aside0 (BufAt wi w2.heap.size [0, UInt8.ofNat (128 + v % 64)])) ∨ (j = 1 ∧ v0 = .int .i32 (((v : Nat) : Int)) ∧ Aside0 (BufAt wi w2.heap.size [0, 0])))) (fun _ v7 _ => (intOf v7).toNat)
      case atStart =>
        refine ⟨1, by omega, rfl, ⟨blk_alloc HBK2.out _⟩, ⟨HW2.out.alloc HW2.out.size _⟩, Or.inr (⟨rfl, rfl, ⟨BufAt.zeros w2 2⟩⟩)⟩
      case round =>
        obtain ⟨j, hj, rfl, HC, HWi, hst⟩ := hrel
        rcases hst with ⟨rfl, rfl, HBuf⟩ | ⟨rfl, rfl, HBuf⟩
        · have hcl := (blk_cell HC.out 0).trans rfl
          have hcm := (blk_cell HC.out 2).trans rfl
          have hbc := HBuf.out.cell 0 (by simp)
          have hbf := HBuf.out.free 0 (by simp)
          have hx : ((UInt8.ofNat (192 + v / 64)).toNat : Int) = 192 + (v : Int) / 64 := by rw [UInt8.toNat_ofNat']; omega
          have hset := HBuf.out.set (k := 0) (by simp) (UInt8.ofNat (192 + v / 64))
          rw [hx] at hset
          have hs := hset.string (by simp) 2
          have hs2 : (convert 44 9 (.slice (some ⟨w2.heap.size, 0, none⟩) 2 2)).run Tryz.prog (wr.setCell ⟨w2.heap.size, 0, none⟩ (.int .u8 (192 + (v : Int) / 64))) = .ok (.string (mkS (encL2 v))) (wr.setCell ⟨w2.heap.size, 0, none⟩ (.int .u8 (192 + (v : Int) / 64))) := hs
          have Hlt := Lib.hid (Nat.le_of_lt (Nat.lt_of_le_of_lt HW.out.size Hlt2.out))
          clear hset hs hx

          go_wp2
          go_ret2
          exact ⟨rfl, HWi.out.setCell (p := ⟨w2.heap.size, 0, none⟩) Hlt.out _⟩
        · have hbc := HBuf.out.cell 1 (by simp)
          have hbf := HBuf.out.free 1 (by simp)
          have hrest : (v : Nat) / 64 = v / 64 := by omega
          have hset := HBuf.out.set (k := 1) (by simp) (UInt8.ofNat (128 + v % 64))
          have hand : bits BinOp.and IntKind.i32 (((v : Nat) : Int)) 63 = (((v % 64 : Nat)) : Int) := by rw [show (63 : Int) = 2 ^ 6 - 1 from by decide, bits_mask .i32 31 (by decide) wraps_i32 6 (by decide) _ (by omega) (by omega)]; omega
          have hx : ((UInt8.ofNat (128 + v % 64)).toNat : Int) = 128 + (((v % 64 : Nat)) : Int) := by rw [UInt8.toNat_ofNat']; omega
          rw [hx] at hset
          have hm64 : v % 64 < 64 := by omega
          generalize hmq : v % 64 = m at *
          have hor : bits BinOp.or IntKind.u8 128 (m : Int) = 128 + (m : Int) := u8_or128 _ (by omega) (by omega)
          have Hrest := Lib.hid hrest
          have Hset := Aside0.mk hset
          have Hlt := Lib.hid (Nat.le_of_lt (Nat.lt_of_le_of_lt HW.out.size Hlt2.out))
          clear hx hmq hset hrest
          go_wp2
          go_roundw
          case rel =>
            refine ⟨0, by omega, by go_num, ⟨(Below.heap_setCell _ _ _ _ (by have := Hlt2.out; simp; omega)).trans HC.out⟩, ⟨HWi.out.setCell (p := ⟨w2.heap.size, 1, none⟩) Hlt.out _⟩, Or.inl ⟨rfl, ?_, ⟨Hset.out⟩⟩⟩
            have := Hrest.out
            go_num
          case measure => simp [intOf]

theorem make_3 (w : World) : (Instr.makeSlice 44 (.int .i64 3) (.int .i64 3)).run Tryz.prog w = .ok (.slice (some ⟨w.heap.size, 0, none⟩) 3 3) (w.alloc (.cells #[.int .u8 0, .int .u8 0, .int .u8 0] 5)) := by
  obtain ⟨i0, hi, hz0, hz1, hz2⟩ := info_parts infoByte
  rw [run_make w 44 5 i0 _ Tryz.underlying44 hi hz0 .i64 .i64 3 3 (by decide) (by decide) (by rw [hz2]; decide) (by decide), hz1, show madeCells (Value.int IntKind.u8 0).cells (((3 : Int)).toNat * 1) = #[.int .u8 0, .int .u8 0, .int .u8 0] from by kernel_rfl]
  rfl
def encL3 (v : Nat) : List UInt8 := [UInt8.ofNat (224 + v / 4096), UInt8.ofNat (128 + v / 64 % 64), UInt8.ofNat (128 + v % 64)]
set_option maxHeartbeats 2000000 in
set_option maxRecDepth 100000 in
theorem encode_3 (v : Nat) (w : World) (h1 : 2048 ≤ v) (h2 : v ≤ 65535) (h3 : v < 55296 ∨ 57343 < v) : Calls Tryz.prog 67 #[.int .i32 v] w fun e w' => e = .returned (.tuple #[.string (mkS (encL3 v)), .int .i64 0]) ∧ Below w.heap.size w w' := by
  have mk := make_3
  have hnot : bits BinOp.andNot IntKind.u8 224 15 = 224 := by decide
  have i0 := cls_at0
  have i1 := cls_at1
  have i2 := cls_at2
  go_enter Tryz.func67, Tryz.ntmps67
  go_wp2_with (go_at_call 93; refine (classes_any _).mono ?_; rintro e w1 ⟨rfl, hb⟩)
  have HB := Aside0.mk hb
  clear hb
  go_loopw [0, 9] (fun v0 v9 wr => ∃ k : Nat, k ≤ 2 ∧ v9 = .int .i64 k ∧ v0 = .int .i32 v ∧ Aside0 (Below w.heap.size w wr)) (fun _ v9 _ => 4 - (intOf v9).toNat)
  case atStart => exact ⟨0, by omega, rfl, rfl, ⟨HB.out⟩⟩
  case round =>
    obtain ⟨k, hk, rfl, rfl, HW⟩ := hrel
    have hk5 : k = 0 ∨ k = 1 ∨ k = 2 := by omega
    rcases hk5 with rfl | rfl | rfl
    · have hq : utf8_class_within.f 0 127 127 0 127 (v : Int) = some false := by unfold utf8_class_within.f; rw [if_pos (by omega), if_neg (by omega)]
      have Hq := Lib.hid hq
      clear hq
      go_wp2_with (go_at_call 94; refine (utf8_class_within.calls _ _ _ _ _ _ false _ Hq.out).mono ?_; rintro e w2 ⟨rfl, hb2⟩; have HB2 := Aside0.mk hb2; clear hb2)
      go_roundw
      case rel => exact ⟨1, by omega, rfl, rfl, ⟨(HW.out.alloc HW.out.size _).trans (HB2.out.mono (HW.out.alloc HW.out.size _).size)⟩⟩
      case measure => simp [intOf]
    · have hq : utf8_class_within.f 194 223 31 128 2047 (v : Int) = some false := by unfold utf8_class_within.f; rw [if_pos (by omega), if_neg (by omega)]
      have Hq := Lib.hid hq
      clear hq
      go_wp2_with (go_at_call 94; refine (utf8_class_within.calls _ _ _ _ _ _ false _ Hq.out).mono ?_; rintro e w2 ⟨rfl, hb2⟩; have HB2 := Aside0.mk hb2; clear hb2)
      go_roundw
      case rel => exact ⟨2, by omega, rfl, rfl, ⟨(HW.out.alloc HW.out.size _).trans (HB2.out.mono (HW.out.alloc HW.out.size _).size)⟩⟩
      case measure => simp [intOf]
    · have hq : utf8_class_within.f 224 239 15 2048 65535 (v : Int) = some true := by
        unfold utf8_class_within.f; rw [if_pos (by omega), if_pos (by omega)]
        by_cases hv : (v : Int) < 55296
        · rw [if_pos hv]
        · rw [if_neg hv, decide_eq_true (by omega)]
      have Hq := Lib.hid hq
      clear hq
      have hbk := heap_alloc_last wr (.cells #[.int .u8 224, .int .u8 239, .int .u8 15, .int .i32 2048, .int .i32 65535] 130)
      have HBK := Aside0.mk hbk
      clear hbk
      go_wp2_with (go_at_call 94; refine (utf8_class_within.calls _ _ _ _ _ _ true _ Hq.out).mono ?_; rintro e w2 ⟨rfl, hb2⟩; have HB2 := Aside0.mk hb2; clear hb2)
      have HW2 : Aside0 (Below w.heap.size w w2) := ⟨(HW.out.alloc HW.out.size _).trans (HB2.out.mono (HW.out.alloc HW.out.size _).size)⟩
      have hbk2 : w2.heap[wr.heap.size]? = some (.cells #[.int .u8 224, .int .u8 239, .int .u8 15, .int .i32 2048, .int .i32 65535] 130 (0, 0)) := (HB2.out.block _ (by simp)).trans HBK.out
      have hlt2 : wr.heap.size < w2.heap.size := (Array.getElem?_eq_some_iff.1 hbk2).1
      have HBK2 := Aside0.mk hbk2
      have Hlt2 := Lib.hid hlt2
      clear hbk2 hlt2
      go_loopw [0, 7] (fun v0 v7 wi => ∃ j : Nat, j ≤ 2 ∧ v7 = .int .i64 j ∧ Aside0 (wi.heap[wr.heap.size]? = some (.cells #[.int .u8 224, .int .u8 239, .int .u8 15, .int .i32 2048, .int .i32 65535] 130 (0, 0))) ∧ Aside0 (Below w.heap.size w wi) ∧ ((j = 0 ∧ v0 = .int .i32 (((v / 4096 : Nat) : Int)) ∧ Aside0 (BufAt wi w2.heap.size [0, UInt8.ofNat (128 + v / 64 % 64), UInt8.ofNat (128 + v % 64)])) ∨ (j = 1 ∧ v0 = .int .i32 (((v / 64 : Nat) : Int)) ∧ Aside0 (BufAt wi w2.heap.size [0, 0, UInt8.ofNat (128 + v % 64)])) ∨ (j = 2 ∧ v0 = .int .i32 (((v : Nat) : Int)) ∧ Aside0 (BufAt wi w2.heap.size [0, 0, 0])))) (fun _ v7 _ => (intOf v7).toNat)
      case atStart =>
        refine ⟨2, by omega, rfl, ⟨blk_alloc HBK2.out _⟩, ⟨HW2.out.alloc HW2.out.size _⟩, Or.inr (Or.inr (⟨rfl, rfl, ⟨BufAt.zeros w2 3⟩⟩))⟩
      case round =>
        obtain ⟨j, hj, rfl, HC, HWi, hst⟩ := hrel
        rcases hst with ⟨rfl, rfl, HBuf⟩ | ⟨rfl, rfl, HBuf⟩ | ⟨rfl, rfl, HBuf⟩
        · have hcl := (blk_cell HC.out 0).trans rfl
          have hcm := (blk_cell HC.out 2).trans rfl
          have hbc := HBuf.out.cell 0 (by simp)
          have hbf := HBuf.out.free 0 (by simp)
          have hx : ((UInt8.ofNat (224 + v / 4096)).toNat : Int) = 224 + (v : Int) / 4096 := by rw [UInt8.toNat_ofNat']; omega
          have hset := HBuf.out.set (k := 0) (by simp) (UInt8.ofNat (224 + v / 4096))
          rw [hx] at hset
          have hs := hset.string (by simp) 3
          have hs2 : (convert 44 9 (.slice (some ⟨w2.heap.size, 0, none⟩) 3 3)).run Tryz.prog (wr.setCell ⟨w2.heap.size, 0, none⟩ (.int .u8 (224 + (v : Int) / 4096))) = .ok (.string (mkS (encL3 v))) (wr.setCell ⟨w2.heap.size, 0, none⟩ (.int .u8 (224 + (v : Int) / 4096))) := hs
          have Hlt := Lib.hid (Nat.le_of_lt (Nat.lt_of_le_of_lt HW.out.size Hlt2.out))
          clear hset hs hx

          go_wp2
          go_ret2
          exact ⟨rfl, HWi.out.setCell (p := ⟨w2.heap.size, 0, none⟩) Hlt.out _⟩
        · have hbc := HBuf.out.cell 1 (by simp)
          have hbf := HBuf.out.free 1 (by simp)
          have hq1 : v / 64 ≤ 1114111 := by omega
          have hrest : (v / 64 : Nat) / 64 = v / 4096 := by omega
          generalize hqq : v / 64 = q at *
          have Hqq := Lib.hid hqq
          clear hqq

          have hset := HBuf.out.set (k := 1) (by simp) (UInt8.ofNat (128 + q % 64))
          have hand : bits BinOp.and IntKind.i32 (((q : Nat) : Int)) 63 = (((q % 64 : Nat)) : Int) := by rw [show (63 : Int) = 2 ^ 6 - 1 from by decide, bits_mask .i32 31 (by decide) wraps_i32 6 (by decide) _ (by omega) (by omega)]; omega
          have hx : ((UInt8.ofNat (128 + q % 64)).toNat : Int) = 128 + (((q % 64 : Nat)) : Int) := by rw [UInt8.toNat_ofNat']; omega
          rw [hx] at hset
          have hm64 : q % 64 < 64 := by omega
          generalize hmq : q % 64 = m at *
          have hor : bits BinOp.or IntKind.u8 128 (m : Int) = 128 + (m : Int) := u8_or128 _ (by omega) (by omega)
          have Hrest := Lib.hid hrest
          have Hset := Aside0.mk hset
          have Hlt := Lib.hid (Nat.le_of_lt (Nat.lt_of_le_of_lt HW.out.size Hlt2.out))
          clear hx hmq hset hrest
          go_wp2
          go_roundw
          case rel =>
            refine ⟨0, by omega, by go_num, ⟨(Below.heap_setCell _ _ _ _ (by have := Hlt2.out; simp; omega)).trans HC.out⟩, ⟨HWi.out.setCell (p := ⟨w2.heap.size, 1, none⟩) Hlt.out _⟩, Or.inl ⟨rfl, ?_, ⟨Hset.out⟩⟩⟩
            have := Hrest.out
            go_num
          case measure => simp [intOf]
        · have hbc := HBuf.out.cell 2 (by simp)
          have hbf := HBuf.out.free 2 (by simp)
          have hrest : (v : Nat) / 64 = v / 64 := by omega
          have hset := HBuf.out.set (k := 2) (by simp) (UInt8.ofNat (128 + v % 64))
          have hand : bits BinOp.and IntKind.i32 (((v : Nat) : Int)) 63 = (((v % 64 : Nat)) : Int) := by rw [show (63 : Int) = 2 ^ 6 - 1 from by decide, bits_mask .i32 31 (by decide) wraps_i32 6 (by decide) _ (by omega) (by omega)]; omega
          have hx : ((UInt8.ofNat (128 + v % 64)).toNat : Int) = 128 + (((v % 64 : Nat)) : Int) := by rw [UInt8.toNat_ofNat']; omega
          rw [hx] at hset
          have hm64 : v % 64 < 64 := by omega
          generalize hmq : v % 64 = m at *
          have hor : bits BinOp.or IntKind.u8 128 (m : Int) = 128 + (m : Int) := u8_or128 _ (by omega) (by omega)
          have Hrest := Lib.hid hrest
          have Hset := Aside0.mk hset
          have Hlt := Lib.hid (Nat.le_of_lt (Nat.lt_of_le_of_lt HW.out.size Hlt2.out))
          clear hx hmq hset hrest
          go_wp2
          go_roundw
          case rel =>
            refine ⟨1, by omega, by go_num, ⟨(Below.heap_setCell _ _ _ _ (by have := Hlt2.out; simp; omega)).trans HC.out⟩, ⟨HWi.out.setCell (p := ⟨w2.heap.size, 2, none⟩) Hlt.out _⟩, Or.inr (Or.inl ⟨rfl, ?_, ⟨Hset.out⟩⟩)⟩
            have := Hrest.out
            go_num
          case measure => simp [intOf]

theorem make_4 (w : World) : (Instr.makeSlice 44 (.int .i64 4) (.int .i64 4)).run Tryz.prog w = .ok (.slice (some ⟨w.heap.size, 0, none⟩) 4 4) (w.alloc (.cells #[.int .u8 0, .int .u8 0, .int .u8 0, .int .u8 0] 5)) := by
  obtain ⟨i0, hi, hz0, hz1, hz2⟩ := info_parts infoByte
  rw [run_make w 44 5 i0 _ Tryz.underlying44 hi hz0 .i64 .i64 4 4 (by decide) (by decide) (by rw [hz2]; decide) (by decide), hz1, show madeCells (Value.int IntKind.u8 0).cells (((4 : Int)).toNat * 1) = #[.int .u8 0, .int .u8 0, .int .u8 0, .int .u8 0] from by kernel_rfl]
  rfl
def encL4 (v : Nat) : List UInt8 := [UInt8.ofNat (240 + v / 262144), UInt8.ofNat (128 + v / 4096 % 64), UInt8.ofNat (128 + v / 64 % 64), UInt8.ofNat (128 + v % 64)]
set_option maxHeartbeats 2000000 in
set_option maxRecDepth 100000 in
theorem encode_4 (v : Nat) (w : World) (h1 : 65536 ≤ v) (h2 : v ≤ 1114111) (h3 : v < 55296 ∨ 57343 < v) : Calls Tryz.prog 67 #[.int .i32 v] w fun e w' => e = .returned (.tuple #[.string (mkS (encL4 v)), .int .i64 0]) ∧ Below w.heap.size w w' := by
  have mk := make_4
  have hnot : bits BinOp.andNot IntKind.u8 240 7 = 240 := by decide
  have i0 := cls_at0
  have i1 := cls_at1
  have i2 := cls_at2
  have i3 := cls_at3
  go_enter Tryz.func67, Tryz.ntmps67
  go_wp2_with (go_at_call 93; refine (classes_any _).mono ?_; rintro e w1 ⟨rfl, hb⟩)
  have HB := Aside0.mk hb
  clear hb
  go_loopw [0, 9] (fun v0 v9 wr => ∃ k : Nat, k ≤ 3 ∧ v9 = .int .i64 k ∧ v0 = .int .i32 v ∧ Aside0 (Below w.heap.size w wr)) (fun _ v9 _ => 4 - (intOf v9).toNat)
  case atStart => exact ⟨0, by omega, rfl, rfl, ⟨HB.out⟩⟩
  case round =>
    obtain ⟨k, hk, rfl, rfl, HW⟩ := hrel
    have hk5 : k = 0 ∨ k = 1 ∨ k = 2 ∨ k = 3 := by omega
    rcases hk5 with rfl | rfl | rfl | rfl
    · have hq : utf8_class_within.f 0 127 127 0 127 (v : Int) = some false := by unfold utf8_class_within.f; rw [if_pos (by omega), if_neg (by omega)]
      have Hq := Lib.hid hq
      clear hq
      go_wp2_with (go_at_call 94; refine (utf8_class_within.calls _ _ _ _ _ _ false _ Hq.out).mono ?_; rintro e w2 ⟨rfl, hb2⟩; have HB2 := Aside0.mk hb2; clear hb2)
      go_roundw
      case rel => exact ⟨1, by omega, rfl, rfl, ⟨(HW.out.alloc HW.out.size _).trans (HB2.out.mono (HW.out.alloc HW.out.size _).size)⟩⟩
      case measure => simp [intOf]
    · have hq : utf8_class_within.f 194 223 31 128 2047 (v : Int) = some false := by unfold utf8_class_within.f; rw [if_pos (by omega), if_neg (by omega)]
      have Hq := Lib.hid hq
      clear hq
      go_wp2_with (go_at_call 94; refine (utf8_class_within.calls _ _ _ _ _ _ false _ Hq.out).mono ?_; rintro e w2 ⟨rfl, hb2⟩; have HB2 := Aside0.mk hb2; clear hb2)
      go_roundw
      case rel => exact ⟨2, by omega, rfl, rfl, ⟨(HW.out.alloc HW.out.size _).trans (HB2.out.mono (HW.out.alloc HW.out.size _).size)⟩⟩
      case measure => simp [intOf]
    · have hq : utf8_class_within.f 224 239 15 2048 65535 (v : Int) = some false := by unfold utf8_class_within.f; rw [if_pos (by omega), if_neg (by omega)]
      have Hq := Lib.hid hq
      clear hq
      go_wp2_with (go_at_call 94; refine (utf8_class_within.calls _ _ _ _ _ _ false _ Hq.out).mono ?_; rintro e w2 ⟨rfl, hb2⟩; have HB2 := Aside0.mk hb2; clear hb2)
      go_roundw
      case rel => exact ⟨3, by omega, rfl, rfl, ⟨(HW.out.alloc HW.out.size _).trans (HB2.out.mono (HW.out.alloc HW.out.size _).size)⟩⟩
      case measure => simp [intOf]
    · have hq : utf8_class_within.f 240 244 7 65536 1114111 (v : Int) = some true := by
        unfold utf8_class_within.f; rw [if_pos (by omega), if_pos (by omega)]
        by_cases hv : (v : Int) < 55296
        · rw [if_pos hv]
        · rw [if_neg hv, decide_eq_true (by omega)]
      have Hq := Lib.hid hq
      clear hq
      have hbk := heap_alloc_last wr (.cells #[.int .u8 240, .int .u8 244, .int .u8 7, .int .i32 65536, .int .i32 1114111] 130)
      have HBK := Aside0.mk hbk
      clear hbk
      go_wp2_with (go_at_call 94; refine (utf8_class_within.calls _ _ _ _ _ _ true _ Hq.out).mono ?_; rintro e w2 ⟨rfl, hb2⟩; have HB2 := Aside0.mk hb2; clear hb2)
      have HW2 : Aside0 (Below w.heap.size w w2) := ⟨(HW.out.alloc HW.out.size _).trans (HB2.out.mono (HW.out.alloc HW.out.size _).size)⟩
      have hbk2 : w2.heap[wr.heap.size]? = some (.cells #[.int .u8 240, .int .u8 244, .int .u8 7, .int .i32 65536, .int .i32 1114111] 130 (0, 0)) := (HB2.out.block _ (by simp)).trans HBK.out
      have hlt2 : wr.heap.size < w2.heap.size := (Array.getElem?_eq_some_iff.1 hbk2).1
      have HBK2 := Aside0.mk hbk2
      have Hlt2 := Lib.hid hlt2
      clear hbk2 hlt2
      go_loopw [0, 7] (fun v0 v7 wi => ∃ j : Nat, j ≤ 3 ∧ v7 = .int .i64 j ∧ Aside0 (wi.heap[wr.heap.size]? = some (.cells #[.int .u8 240, .int .u8 244, .int .u8 7, .int .i32 65536, .int .i32 1114111] 130 (0, 0))) ∧ Aside0 (Below w.heap.size w wi) ∧ ((j = 0 ∧ v0 = .int .i32 (((v / 262144 : Nat) : Int)) ∧ Aside0 (BufAt wi w2.heap.size [0, UInt8.ofNat (128 + v / 4096 % 64), UInt8.ofNat (128 + v / 64 % 64), UInt8.ofNat (128 + v % 64)])) ∨ (j = 1 ∧ v0 = .int .i32 (((v / 4096 : Nat) : Int)) ∧ Aside0 (BufAt wi w2.heap.size [0, 0, UInt8.ofNat (128 + v / 64 % 64), UInt8.ofNat (128 + v % 64)])) ∨ (j = 2 ∧ v0 = .int .i32 (((v / 64 : Nat) : Int)) ∧ Aside0 (BufAt wi w2.heap.size [0, 0, 0, UInt8.ofNat (128 + v % 64)])) ∨ (j = 3 ∧ v0 = .int .i32 (((v : Nat) : Int)) ∧ Aside0 (BufAt wi w2.heap.size [0, 0, 0, 0])))) (fun _ v7 _ => (intOf v7).toNat)
      case atStart =>
        refine ⟨3, by omega, rfl, ⟨blk_alloc HBK2.out _⟩, ⟨HW2.out.alloc HW2.out.size _⟩, Or.inr (Or.inr (Or.inr (⟨rfl, rfl, ⟨BufAt.zeros w2 4⟩⟩)))⟩
      case round =>
        obtain ⟨j, hj, rfl, HC, HWi, hst⟩ := hrel
        rcases hst with ⟨rfl, rfl, HBuf⟩ | ⟨rfl, rfl, HBuf⟩ | ⟨rfl, rfl, HBuf⟩ | ⟨rfl, rfl, HBuf⟩
        · have hcl := (blk_cell HC.out 0).trans rfl
          have hcm := (blk_cell HC.out 2).trans rfl
          have hbc := HBuf.out.cell 0 (by simp)
          have hbf := HBuf.out.free 0 (by simp)
          have hx : ((UInt8.ofNat (240 + v / 262144)).toNat : Int) = 240 + (v : Int) / 262144 := by rw [UInt8.toNat_ofNat']; omega
          have hset := HBuf.out.set (k := 0) (by simp) (UInt8.ofNat (240 + v / 262144))
          rw [hx] at hset
          have hs := hset.string (by simp) 4
          have hs2 : (convert 44 9 (.slice (some ⟨w2.heap.size, 0, none⟩) 4 4)).run Tryz.prog (wr.setCell ⟨w2.heap.size, 0, none⟩ (.int .u8 (240 + (v : Int) / 262144))) = .ok (.string (mkS (encL4 v))) (wr.setCell ⟨w2.heap.size, 0, none⟩ (.int .u8 (240 + (v : Int) / 262144))) := hs
          have Hlt := Lib.hid (Nat.le_of_lt (Nat.lt_of_le_of_lt HW.out.size Hlt2.out))
          clear hset hs hx

          go_wp2
          go_ret2
          exact ⟨rfl, HWi.out.setCell (p := ⟨w2.heap.size, 0, none⟩) Hlt.out _⟩
        · have hbc := HBuf.out.cell 1 (by simp)
          have hbf := HBuf.out.free 1 (by simp)
          have hq1 : v / 4096 ≤ 1114111 := by omega
          have hrest : (v / 4096 : Nat) / 64 = v / 262144 := by omega
          generalize hqq : v / 4096 = q at *
          have Hqq := Lib.hid hqq
          clear hqq

          have hset := HBuf.out.set (k := 1) (by simp) (UInt8.ofNat (128 + q % 64))
          have hand : bits BinOp.and IntKind.i32 (((q : Nat) : Int)) 63 = (((q % 64 : Nat)) : Int) := by rw [show (63 : Int) = 2 ^ 6 - 1 from by decide, bits_mask .i32 31 (by decide) wraps_i32 6 (by decide) _ (by omega) (by omega)]; omega
          have hx : ((UInt8.ofNat (128 + q % 64)).toNat : Int) = 128 + (((q % 64 : Nat)) : Int) := by rw [UInt8.toNat_ofNat']; omega
          rw [hx] at hset
          have hm64 : q % 64 < 64 := by omega
          generalize hmq : q % 64 = m at *
          have hor : bits BinOp.or IntKind.u8 128 (m : Int) = 128 + (m : Int) := u8_or128 _ (by omega) (by omega)
          have Hrest := Lib.hid hrest
          have Hset := Aside0.mk hset
          have Hlt := Lib.hid (Nat.le_of_lt (Nat.lt_of_le_of_lt HW.out.size Hlt2.out))
          clear hx hmq hset hrest
          go_wp2
          go_roundw
          case rel =>
            refine ⟨0, by omega, by go_num, ⟨(Below.heap_setCell _ _ _ _ (by have := Hlt2.out; simp; omega)).trans HC.out⟩, ⟨HWi.out.setCell (p := ⟨w2.heap.size, 1, none⟩) Hlt.out _⟩, Or.inl ⟨rfl, ?_, ⟨Hset.out⟩⟩⟩
            have := Hrest.out
            go_num
          case measure => simp [intOf]
        · have hbc := HBuf.out.cell 2 (by simp)
          have hbf := HBuf.out.free 2 (by simp)
          have hq1 : v / 64 ≤ 1114111 := by omega
          have hrest : (v / 64 : Nat) / 64 = v / 4096 := by omega
          generalize hqq : v / 64 = q at *
          have Hqq := Lib.hid hqq
          clear hqq

          have hset := HBuf.out.set (k := 2) (by simp) (UInt8.ofNat (128 + q % 64))
          have hand : bits BinOp.and IntKind.i32 (((q : Nat) : Int)) 63 = (((q % 64 : Nat)) : Int) := by rw [show (63 : Int) = 2 ^ 6 - 1 from by decide, bits_mask .i32 31 (by decide) wraps_i32 6 (by decide) _ (by omega) (by omega)]; omega
          have hx : ((UInt8.ofNat (128 + q % 64)).toNat : Int) = 128 + (((q % 64 : Nat)) : Int) := by rw [UInt8.toNat_ofNat']; omega
          rw [hx] at hset
          have hm64 : q % 64 < 64 := by omega
          generalize hmq : q % 64 = m at *
          have hor : bits BinOp.or IntKind.u8 128 (m : Int) = 128 + (m : Int) := u8_or128 _ (by omega) (by omega)
          have Hrest := Lib.hid hrest
          have Hset := Aside0.mk hset
          have Hlt := Lib.hid (Nat.le_of_lt (Nat.lt_of_le_of_lt HW.out.size Hlt2.out))
          clear hx hmq hset hrest
          go_wp2
          go_roundw
          case rel =>
            refine ⟨1, by omega, by go_num, ⟨(Below.heap_setCell _ _ _ _ (by have := Hlt2.out; simp; omega)).trans HC.out⟩, ⟨HWi.out.setCell (p := ⟨w2.heap.size, 2, none⟩) Hlt.out _⟩, Or.inr (Or.inl ⟨rfl, ?_, ⟨Hset.out⟩⟩)⟩
            have := Hrest.out
            go_num
          case measure => simp [intOf]
        · have hbc := HBuf.out.cell 3 (by simp)
          have hbf := HBuf.out.free 3 (by simp)
          have hrest : (v : Nat) / 64 = v / 64 := by omega
          have hset := HBuf.out.set (k := 3) (by simp) (UInt8.ofNat (128 + v % 64))
          have hand : bits BinOp.and IntKind.i32 (((v : Nat) : Int)) 63 = (((v % 64 : Nat)) : Int) := by rw [show (63 : Int) = 2 ^ 6 - 1 from by decide, bits_mask .i32 31 (by decide) wraps_i32 6 (by decide) _ (by omega) (by omega)]; omega
          have hx : ((UInt8.ofNat (128 + v % 64)).toNat : Int) = 128 + (((v % 64 : Nat)) : Int) := by rw [UInt8.toNat_ofNat']; omega
          rw [hx] at hset
          have hm64 : v % 64 < 64 := by omega
          generalize hmq : v % 64 = m at *
          have hor : bits BinOp.or IntKind.u8 128 (m : Int) = 128 + (m : Int) := u8_or128 _ (by omega) (by omega)
          have Hrest := Lib.hid hrest
          have Hset := Aside0.mk hset
          have Hlt := Lib.hid (Nat.le_of_lt (Nat.lt_of_le_of_lt HW.out.size Hlt2.out))
          clear hx hmq hset hrest
          go_wp2
          go_roundw
          case rel =>
            refine ⟨2, by omega, by go_num, ⟨(Below.heap_setCell _ _ _ _ (by have := Hlt2.out; simp; omega)).trans HC.out⟩, ⟨HWi.out.setCell (p := ⟨w2.heap.size, 3, none⟩) Hlt.out _⟩, Or.inr (Or.inr (Or.inl ⟨rfl, ?_, ⟨Hset.out⟩⟩))⟩
            have := Hrest.out
            go_num
          case measure => simp [intOf]
end Go.Proofs.YtfeciafdioepiaaGreatDoor
set_option linter.unusedVariables false
set_option linter.unusedSimpArgs false
namespace Go.Proofs.YtfeciafdioepiaaGreatDoor
open Go.RowKit Go.Shelf Go.Proofs

/-- How the body of a round may be left. -/
def roundEnds {α : Type} (I : List α → World → Prop) (Ix : Code → List α → World → Prop) (xs : List α) (W : World) : Exit → Act → World → Prop
  | .normal, _, W' => KeepsOthers W W' ∧ I xs W'
  | .ret, _, W' => KeepsOthers W W' ∧ Ix .ret xs W'
  | .exit id, _, W' => KeepsOthers W W' ∧ Ix (.exit id) xs W'
  | .goto t, _, W' => KeepsOthers W W' ∧ Ix (.goto t) xs W'
  | .panic _, _, _ => False
  | .outgrown, _, _ => False

/-- What an iterator (function g over the captured lb) does with whatever loop: Mv: how it moves between two rounds; Rd: what it reads; S: all has come; Sp: a part has come. -/
def Iter {α : Type} (P : Program) (g : Nat) (lb : Array Value) (encs : α → Array Value) (In : World → Prop) (Mv : World → World → Prop) (Rd : World → Prop) (S Sp : List α → Prop) (Lt : List α → α → Prop) : Prop :=
  ∀ (n l : Nat) (J Jx : List α → World → Prop) (W : World), (∀ pre W W', J pre W → Mv W W' → J pre W') → (∀ pre W, J pre W → Rd W) →
    (∀ pre x W1, J pre W1 → Lt pre x → YieldAt Fence.wide (n - 1) P l (encs x) W1 fun e W' =>
      (e = .returned (.bool true) ∧ J (pre ++ [x]) W') ∨ (e = .returned (.bool false) ∧ Jx (pre ++ [x]) W')) →
    J [] W → In W →
    CallsIn Fence.wide n P g (#[.func (.yield l) #[] #[]] ++ lb) W fun e W' => (∃ v, e = .returned v) ∧ ((∃ xs, S xs ∧ J xs W') ∨ (∃ pre, Sp pre ∧ Jx pre W'))

theorem range_law {α : Type} {n : Nat} {P : Program} {g : Operand} {ps : Array Tmp} {assign body : Code} {Q : Exit → Act → World → Prop} {a : Act} {w : World}
    {gf : Nat} {lb : Array Value} (hg : a.eval g = .func (.func gf) #[] lb) (eg : ∀ args w, (callFunc gf args).run P w = .ok (.enter gf args) w)
    {encs : α → Array Value} {In : World → Prop} {Mv : World → World → Prop} {Rd : World → Prop} {S Sp : List α → Prop} {Lt : List α → α → Prop} (hseq : Iter P gf lb encs In Mv Rd S Sp Lt)
    (hMv : ∀ W W', Mv W W' → KeepsOthers W W') (hps : ∀ x, (encs x).size = ps.size)
    (I : List α → World → Prop) (Ix : Code → List α → World → Prop) (hIm : ∀ pre W W', I pre W → Mv W W' → I pre W') (hIr : ∀ pre W, I pre W → Rd W)
    (hIp : ∀ pre W l o, w.heap.size ≤ l → I pre W → I pre (W.putObj l o)) (hIxp : ∀ c pre W l o, w.heap.size ≤ l → Ix c pre W → Ix c pre (W.putObj l o))
    (h0 : ∀ o o', I [] ((w.alloc o).alloc o')) (hin : ∀ o o', In ((w.alloc o).alloc o')) (a₁ : α → Act)
    (hassign : ∀ (l : Nat) (x : α) (W : World) (K : Act → World → Prop), K (a₁ x) W →
      assign.wpIn (Fence.wide.inRound l) (n - 1 - 1) P (Exit.then K (fun _ _ _ => False)) { tmps := (ps.zip (encs x)).foldl (fun t (p, v) => t.setIfInBounds p v) a.tmps, defers := [] } W)
    (hbody : ∀ (l : Nat) (pre : List α) (x : α) (W : World), I pre W → Lt pre x → body.wpIn (Fence.wide.inRound l) (n - 1 - 1) P (roundEnds I Ix (pre ++ [x]) W) (a₁ x) W)
    (hdone : ∀ (D : Nat) (xs : List α) (W : World), w.heap.size ≤ D → S xs → I xs W → W.heap[D]? = some (.deferred (some [])) → Q .normal { a with defers := { target := .collected D, args := #[] } :: a.defers } W)
    (hstop : ∀ (D : Nat) (c : Code) (pre : List α) (W : World), w.heap.size ≤ D → Sp pre → Ix c pre W → W.heap[D]? = some (.deferred (some [])) → c.wpIn Fence.wide n P Q { a with defers := { target := .collected D, args := #[] } :: a.defers } W) :
    (Code.rangeFunc g ps assign body).wpIn Fence.wide n P Q a w := by
  refine wpIn_rangeFunc fun fn hfn => ?_
  generalize hD : w.heap.size = D at *
  let R : LoopState → Option Code → Obj := fun st pe => .loop { state := st, pending := pe, fn, tmps := a.tmps, params := ps, assign, body, defers := D }
  let W1 := (w.alloc (.deferred (some []))).alloc (R .ready none)
  have hL : W1.heap[D + 1]? = some (R .ready none) := by
    have := World.alloc_heap_new (w.alloc (.deferred (some []))) (R .ready none)
    rwa [World.size_alloc, hD] at this
  have hK : W1.heap[D]? = some (.deferred (some [])) := by
    have h1 : (w.alloc (.deferred (some []))).heap[D]? = some (.deferred (some [])) := by rw [← hD]; exact World.alloc_heap_new w _
    exact (Below.heap_alloc _ _ _ (by rw [World.size_alloc, hD]; omega)).trans h1
  -- what the iterator is told to keep, and what holds where a round has stopped it
  let J : List α → World → Prop := fun pre W => I pre W ∧ W.heap[D + 1]? = some (R .ready none) ∧ W.heap[D]? = some (.deferred (some []))
  let Jx : List α → World → Prop := fun pre W => ∃ c, Ix c pre W ∧ W.heap[D + 1]? = some (R .done (some c)) ∧ W.heap[D]? = some (.deferred (some []))
  have hit := hseq (n - 1) (D + 1) J Jx W1
    (fun pre W W' h hm => ⟨hIm _ _ _ h.1 hm, (hMv _ _ hm).same _ _ h.2.1 rfl, (hMv _ _ hm).same _ _ h.2.2 rfl⟩) (fun pre W h => hIr _ _ h.1)
  refine ⟨D + 1, [{ target := .collected D, args := #[] }], W1, { target := .fn (.func gf) lb, args := #[.func (.yield (D + 1)) #[] #[]] }, W1, gf, #[.func (.yield (D + 1)) #[] #[]] ++ lb, W1, ?_, ?_, fun _ _ => trivial, ?_, (fun h => nomatch h), ?_⟩
  · have := run_enterLoop_outer (P := P) (w := w) fn a.tmps ps assign body
    rw [hD] at this
    exact this
  · simp only [resolve, hg]
    simp [go_sem]
  · simp [invoke, go_sem, eg]
  refine (hit ?_ ⟨h0 _ _, hL, hK⟩ (hin _ _)).mono ?_
  · -- a round
    rintro pre x W ⟨hi, hl, hk⟩ hlt
    have hsz : D + 1 < W.heap.size := (Array.getElem?_eq_some_iff.1 hl).1
    refine ⟨fn, _, assign, body, run_yield hl (hps x), roundIn_of_wpIn hfn (hassign _ x W _ ⟨_, run_beginRound hl rfl, ?_⟩)⟩
    have hl2 : (W.putObj (D + 1) (R .busy none)).heap[D + 1]? = some (R .busy none) := World.putObj_heap_same hsz
    have hk2 : (W.putObj (D + 1) (R .busy none)).heap[D]? = some (.deferred (some [])) := (World.putObj_heap_other (by omega)).trans hk
    refine wpIn_mono (hbody _ pre x _ (hIp _ _ _ _ (by omega) hi) hlt) ?_
    -- the record behind the round, whatever the jump
    have after : ∀ (jump : Option Code) (W3 : World), KeepsOthers (W.putObj (D + 1) (R .busy none)) W3 →
        (Instr.endRound (D + 1) jump).run P W3 = .ok (.bool jump.isNone) (W3.putObj (D + 1) (R (if jump.isNone then .ready else .done) jump)) ∧
        (W3.putObj (D + 1) (R (if jump.isNone then .ready else .done) jump)).heap[D + 1]? = some (R (if jump.isNone then .ready else .done) jump) ∧
        (W3.putObj (D + 1) (R (if jump.isNone then .ready else .done) jump)).heap[D]? = some (.deferred (some [])) := fun jump W3 hk3 =>
      ⟨run_endRound jump (hk3.same _ _ hl2 rfl), World.putObj_heap_same (Array.getElem?_eq_some_iff.1 (hk3.same _ _ hl2 rfl)).1, (World.putObj_heap_other (by omega)).trans (hk3.same _ _ hk2 rfl)⟩
    rintro e a3 W3 hp
    have stops : ∀ c, KeepsOthers (W.putObj (D + 1) (R .busy none)) W3 → Ix c (pre ++ [x]) W3 → ∃ v w', (Instr.endRound (D + 1) (some c)).run P W3 = .ok v w' ∧ ((Ending.returned v = .returned (.bool true) ∧ J (pre ++ [x]) w') ∨ (Ending.returned v = .returned (.bool false) ∧ Jx (pre ++ [x]) w')) := by
      intro c hk3 hx
      obtain ⟨e1, e2, e3⟩ := after (some c) W3 hk3
      exact ⟨_, _, e1, .inr ⟨rfl, c, hIxp _ _ _ _ _ (by omega) hx, e2, e3⟩⟩
    cases e with
    | normal =>
      obtain ⟨hk3, hi3⟩ := hp
      obtain ⟨e1, e2, e3⟩ := after none W3 hk3
      exact ⟨_, _, e1, .inl ⟨rfl, hIp _ _ _ _ (by omega) hi3, e2, e3⟩⟩
    | ret => exact stops _ hp.1 hp.2
    | exit id => exact stops _ hp.1 hp.2
    | goto t => exact stops _ hp.1 hp.2
    | panic ch => exact hp.elim
    | outgrown => exact hp.elim
  · -- behind the iterator
    rintro e W2 ⟨⟨v, rfl⟩, (⟨xs, hS, hi, hl, hk⟩ | ⟨pre, hSp, c, hi, hl, hk⟩)⟩
    · exact ⟨none, _, run_endLoop hl (by simp), hdone _ xs _ (Nat.le_refl _) hS (hIp _ _ _ _ (by omega) hi) ((World.putObj_heap_other (by omega)).trans hk)⟩
    · exact ⟨some c, _, run_endLoop hl (by simp), hstop _ c pre _ (Nat.le_refl _) hSp (hIxp _ _ _ _ _ (by omega) hi) ((World.putObj_heap_other (by omega)).trans hk)⟩
end Go.Proofs.YtfeciafdioepiaaGreatDoor
set_option linter.unusedVariables false
set_option linter.unusedSimpArgs false
namespace Go.Proofs.YtfeciafdioepiaaGreatDoor
open Go.RowKit Go.Shelf Go.Proofs Go.Proofs.YtfeciafdioepiaaGreatDoorW.PrintWords Go.Proofs.YtfeciafdioepiaaGreatDoorW.PrintMore Go.Proofs.YtfeciafdioepiaaGreatDoor.PA

/-- The code points of bytes with their offsets, and where the first error is; f: more than enough rounds. -/
def runesG : Nat → Nat → List UInt8 → List (Nat × Nat) × Option Nat
  | 0, _, _ => ([], none)
  | f + 1, k, l => if l = [] then ([], none) else match decR l with
    | none => ([], some k)
    | some (v, n) => ((k, v) :: (runesG f (k + n) (l.drop n)).1, (runesG f (k + n) (l.drop n)).2)
def runesU (l : List UInt8) : List (Nat × Nat) × Option Nat := runesG l.length 0 l
theorem decR_pos {l : List UInt8} {v n : Nat} (h : decR l = some (v, n)) : 1 ≤ n ∧ n ≤ l.length ∧ n ≤ 4 ∧ v ≤ 1114111 := by
  cases l with
  | nil => simp [decR] at h
  | cons c l =>
    simp only [decR] at h
    have hs := (sizeU_of c).1
    split at h
    · cases h
    · rename_i hc
      split at h
      · rename_i hok
        injection h with h
        injection h with h1 h2
        rw [← h1, ← h2]
        refine ⟨by omega, by omega, by omega, ?_⟩
        unfold okAll okVal at hok
        simp only [Bool.and_eq_true, decide_eq_true_iff] at hok
        have := hok.2.1.2
        refine Nat.le_trans this ?_
        unfold maxU
        split <;> omega
      · cases h
theorem runesG_nil (f k : Nat) : runesG f k [] = ([], none) := by cases f <;> simp [runesG]
theorem runesG_none {f k : Nat} {l : List UInt8} (h0 : l ≠ []) (h : decR l = none) : runesG (f + 1) k l = ([], some k) := by
  simp only [runesG]; rw [if_neg h0, h]
theorem runesG_some {f k : Nat} {l : List UInt8} {v n : Nat} (h : decR l = some (v, n)) : runesG (f + 1) k l = ((k, v) :: (runesG f (k + n) (l.drop n)).1, (runesG f (k + n) (l.drop n)).2) := by
  have h0 : l ≠ [] := by intro e; subst e; simp [decR] at h
  simp only [runesG]; rw [if_neg h0, h]
def CheckPost (s : ByteArray) (e : Ending) : Prop :=
  match (runesU s.data.toList).2 with
  | none => e = .returned (.tuple #[.int .i64 0, .int .i64 0])
  | some p => ∃ c : Int, c ≠ 0 ∧ e = .returned (.tuple #[.int .i64 p, .int .i64 c])
theorem CheckPost.ok {s : ByteArray} (h : (runesU s.data.toList).2 = none) : CheckPost s (.returned (.tuple #[.int .i64 0, .int .i64 0])) := by unfold CheckPost; rw [h]
theorem CheckPost.bad {s : ByteArray} {p : Nat} (h : (runesU s.data.toList).2 = some p) (c : Int) (hc : c ≠ 0) : CheckPost s (.returned (.tuple #[.int .i64 p, .int .i64 c])) := by unfold CheckPost; rw [h]; exact ⟨c, hc, rfl⟩
theorem FirstPost.cases {s : ByteArray} {e : Ending} (h : FirstPost s e) : (∃ v n, decR s.data.toList = some (v, n) ∧ e = .returned (.tuple #[.int .i32 v, .int .i64 n, .int .i64 0])) ∨ (decR s.data.toList = none ∧ ∃ c : Int, c ≠ 0 ∧ e = .returned (.tuple #[.int .i32 0, .int .i64 0, .int .i64 c])) := by
  unfold FirstPost at h
  split at h
  · rename_i v n hd; exact .inl ⟨v, n, hd, h⟩
  · rename_i hd; exact .inr ⟨hd, h⟩
theorem extract_tail (s : ByteArray) (k : Nat) : (s.extract k s.size).data.toList = s.data.toList.drop k := by
  rw [extract_mk, mkS_toList]
  have : s.data.toList.length = s.size := by simp
  rw [List.take_of_length_le]; rw [List.length_drop]; omega

set_option maxHeartbeats 1000000 in
set_option maxRecDepth 100000 in
theorem check_any (s : ByteArray) (w : World) (hs : s.size ≤ 140737488355328) : Calls Tryz.prog 69 #[.string s] w fun e w' => CheckPost s e ∧ Below w.heap.size w w' := by
  have hlen : s.data.toList.length = s.size := by simp
  have Hlen := Lib.hid hlen
  clear hlen
  go_enter Tryz.func69, Tryz.ntmps69
  go_wp2
  go_loopw [4] (fun v4 wr => ∃ k f : Nat, k ≤ s.size ∧ v4 = .int .i64 k ∧ Aside0 (s.size - k ≤ f ∧ (runesG f k (s.data.toList.drop k)).2 = (runesU s.data.toList).2) ∧ Aside0 (Below w.heap.size w wr)) (fun v4 _ => s.size - (intOf v4).toNat)
  case atStart => exact ⟨0, s.size, Nat.zero_le _, rfl, ⟨by omega, by unfold runesU; rw [Hlen.out]; rfl⟩, ⟨Below.refl _ _⟩⟩
  case round =>
    obtain ⟨k, f, hk, rfl, HF, HW⟩ := hrel
    by_cases hlt : k < s.size
    · have hx := first_any (s.extract k s.size) wr (by rw [ByteArray.size_extract]; omega) (by rw [ByteArray.size_extract]; omega)
      have hl0 : s.data.toList.drop k ≠ [] := by intro h0; have := congrArg List.length h0; rw [List.length_drop, Hlen.out] at this; simp at this; omega
      have Hx := Lib.hid hx
      have Hl0 := Lib.hid hl0
      clear hx hl0
      go_wp2_with (go_at_call 92; refine Hx.out.mono ?_; rintro e w1 ⟨hp, hb⟩; have HB := Aside0.mk hb; clear hb; rcases hp.cases with ⟨v, n, hd, rfl⟩ | ⟨hd, c, hc, rfl⟩)
      · have hd' := hd
        rw [extract_tail] at hd'
        have hp := decR_pos hd'
        rw [List.length_drop] at hp
        have Hd := Lib.hid hd'
        clear hd hd'
        have hpp := Hlen.out
        have h1 : k + n ≤ s.size := by omega
        clear hpp
        have hw : wrap64 ((k : Int) + (n : Int)) = ((k + n : Nat) : Int) := by unfold wrap64; omega
        rw [hw]
        have hfu := HF.out
        obtain ⟨f', rfl⟩ : ∃ f', f = f' + 1 := ⟨f - 1, by omega⟩
        rw [runesG_some Hd.out, List.drop_drop] at hfu
        have Hfu := Lib.hid hfu
        clear hfu
        go_roundw
        case rel => exact ⟨k + n, f', h1, rfl, ⟨by have := Hfu.out.1; omega, Hfu.out.2⟩, ⟨HW.out.trans (HB.out.mono HW.out.size)⟩⟩
        case measure => simp [intOf]; omega
      · rw [extract_tail] at hd
        go_ret2
        have hfu := HF.out
        obtain ⟨f', rfl⟩ : ∃ f', f = f' + 1 := ⟨f - 1, by omega⟩
        rw [runesG_none Hl0.out hd] at hfu
        exact ⟨CheckPost.bad hfu.2.symm c hc, HW.out.trans (HB.out.mono HW.out.size)⟩
    · go_wp2
      go_ret2
      refine ⟨CheckPost.ok ?_, HW.out⟩
      have := HF.out.2
      rw [List.drop_eq_nil_of_le (by rw [Hlen.out]; omega), runesG_nil] at this
      exact this.symm

def validU (l : List UInt8) : Bool := (runesU l).2.isNone
set_option maxHeartbeats 1000000 in
set_option maxRecDepth 100000 in
theorem valid_any (s : ByteArray) (w : World) (hs : s.size ≤ 140737488355328) : Calls Tryz.prog 95 #[.string s] w fun e w' => e = .returned (.bool (validU s.data.toList)) ∧ Below w.heap.size w w' := by
  have hx := check_any s w hs
  unfold CheckPost at hx
  unfold validU
  generalize hr : (runesU s.data.toList).2 = r at *
  cases r with
  | none =>
    have Hx := Lib.hid hx
    clear hx hr
    go_enter Tryz.func95, Tryz.ntmps95
    go_wp2_with (go_at_call 69; refine Hx.out.mono ?_; rintro e w1 ⟨rfl, hb⟩; have HB := Aside0.mk hb; clear hb)
    go_ret
    exact ⟨rfl, HB.out⟩
  | some p =>
    have Hx := Lib.hid hx
    clear hx hr
    go_enter Tryz.func95, Tryz.ntmps95
    go_wp2_with (go_at_call 69; refine Hx.out.mono ?_; rintro e w1 ⟨⟨c, hc, rfl⟩, hb⟩; have HB := Aside0.mk hb; clear hb)
    go_ret
    have : ((c : Int) == 0) = false := by simpa using hc
    exact ⟨by rw [this]; rfl, HB.out⟩
set_option maxHeartbeats 1000000 in
set_option maxRecDepth 100000 in
theorem runes_any (s : ByteArray) (w : World) : Calls Tryz.prog 66 #[.string s] w fun e w' => e = .returned (.func (.func 91) #[] #[.pointer (some ⟨w.heap.size, 0, none⟩)]) ∧ w' = w.alloc (.cells #[.string s] 9) := by
  go_enter Tryz.func66, Tryz.ntmps66
  go_wp2
  go_ret
  exact ⟨rfl, rfl⟩
end Go.Proofs.YtfeciafdioepiaaGreatDoor
set_option linter.unusedVariables false
set_option linter.unusedSimpArgs false
namespace Go.Proofs.YtfeciafdioepiaaGreatDoor
open Go.RowKit Go.Shelf Go.Proofs Go.Proofs.YtfeciafdioepiaaGreatDoorW.PrintWords Go.Proofs.YtfeciafdioepiaaGreatDoorW.PrintMore Go.Proofs.YtfeciafdioepiaaGreatDoor.PA
attribute [local go_sem] Oper.semAt_some

set_option maxHeartbeats 1000000 in
set_option maxRecDepth 100000 in
theorem runes_iter (s : ByteArray) (b : Nat) (hs : s.size ≤ 140737488355328) :
    Iter Tryz.prog 91 #[.pointer (some ⟨b, 0, none⟩)] (fun x : Nat × Nat => #[.int .i64 x.1, .int .i32 x.2]) (fun _ => True) (fun W W' => Below W.heap.size W W') (fun W => W.cell? ⟨b, 0, none⟩ = some (.string s))
      (fun xs => xs = (runesU s.data.toList).1) (fun pre => pre <+: (runesU s.data.toList).1) (fun pre x => pre ++ [x] <+: (runesU s.data.toList).1) := by
  intro n l J Jx W hm hr hY h0 _
  have hlen : s.data.toList.length = s.size := by simp
  have Hlen := Lib.hid hlen
  have Hm := Lib.hid hm
  have Hr := Lib.hid hr
  have HY := Lib.hid hY
  clear hlen hm hr hY
  refine callsIn_of_wp Tryz.func91 rfl trivial ?_ rfl
  simp only [Tryz.ntmps91, List.size_toArray, List.length_cons, List.length_nil, Nat.reduceAdd, Nat.reduceSub, Array.replicate_succ, Array.replicate_zero, List.push_toArray, List.append_toArray, List.nil_append, List.cons_append]
  gi_wp2
  gi_loopw [3] (fun v3 wr => ∃ (k f : Nat) (pre : List (Nat × Nat)), k ≤ s.size ∧ v3 = .int .i64 k ∧ Aside0 (s.size - k ≤ f ∧ (runesU s.data.toList).1 = pre ++ (runesG f k (s.data.toList.drop k)).1) ∧ Aside0 (J pre wr)) (fun v3 _ => s.size - (intOf v3).toNat)
  case atStart => exact ⟨0, s.size, [], Nat.zero_le _, rfl, ⟨by omega, by unfold runesU; rw [Hlen.out]; rfl⟩, ⟨h0⟩⟩
  case round =>
    obtain ⟨k, f, pre, hk, rfl, HF, HJ⟩ := hrel
    have hcell := Hr.out _ _ HJ.out
    by_cases hlt : k < s.size
    · have hx := first_any (s.extract k s.size) wr (by rw [ByteArray.size_extract]; omega) (by rw [ByteArray.size_extract]; omega)
      have hl0 : s.data.toList.drop k ≠ [] := by intro h0; have := congrArg List.length h0; rw [List.length_drop, Hlen.out] at this; simp at this; omega
      have Hx := Lib.hid hx
      have Hl0 := Lib.hid hl0
      clear hx hl0
      gi_wp2_with (refine ⟨trivial, (fun h => nomatch h), ?_⟩; gi_at_call 92; refine (callsIn_wide.2 Hx.out).mono ?_; rintro e w1 ⟨hp, hb⟩; have HB := Aside0.mk hb; clear hb; rcases hp.cases with ⟨v, nn, hd, rfl⟩ | ⟨hd, c, hc, rfl⟩)
      · have hd' := hd
        rw [extract_tail] at hd'
        have hp' := decR_pos hd'
        rw [List.length_drop] at hp'
        have hpp := Hlen.out
        have h1 : k + nn ≤ s.size := by omega
        clear hpp
        have hfu := HF.out
        obtain ⟨f', rfl⟩ : ∃ f', f = f' + 1 := ⟨f - 1, by omega⟩
        rw [runesG_some hd', List.drop_drop] at hfu
        have hJ1 := Hm.out pre wr w1 HJ.out HB.out
        obtain ⟨fn, tmps, assign, body, hy, hR⟩ := HY.out pre (k, v) w1 hJ1 (by rw [hfu.2]; exact ⟨(runesG f' (k + nn) (s.data.toList.drop (k + nn))).1, by simp⟩)
        have hw : wrap64 ((k : Int) + (nn : Int)) = ((k + nn : Nat) : Int) := by unfold wrap64; omega
        have Hfu := Lib.hid hfu
        have HJ1 := Aside0.mk hJ1
        clear hd hd' hp hfu hJ1 hcell
        dsimp only at hy
        gi_wp2
        refine ⟨(fun h => nomatch h), hR.mono ?_⟩
        rintro e W3 (⟨rfl, hJ3⟩ | ⟨rfl, hJx3⟩)
        · gi_wp2
          go_roundw
          case rel => exact ⟨k + nn, f', pre ++ [(k, v)], h1, by go_num, ⟨by have := Hfu.out.1; omega, by rw [Hfu.out.2]; simp⟩, ⟨hJ3⟩⟩
          case measure => simp [intOf]; omega
        · gi_wp2
          refine bodyPost_ret (results_none rfl _ _ _) rfl ?_
          exact ⟨⟨_, rfl⟩, .inr ⟨pre ++ [(k, v)], by rw [Hfu.out.2]; exact ⟨(runesG f' (k + nn) (s.data.toList.drop (k + nn))).1, by simp⟩, hJx3⟩⟩
      · have hcb : (c != 0) = true := by rw [bne_iff_ne]; exact hc
        rw [extract_tail] at hd
        refine ⟨fun _ h => (by cases h), ?_⟩
        gi_wp2
        refine bodyPost_ret (results_none rfl _ _ _) rfl ?_
        have hfu := HF.out
        obtain ⟨f', rfl⟩ : ∃ f', f = f' + 1 := ⟨f - 1, by omega⟩
        rw [runesG_none Hl0.out hd] at hfu
        exact ⟨⟨_, rfl⟩, .inl ⟨pre, by rw [hfu.2]; simp, Hm.out pre wr w1 HJ.out HB.out⟩⟩
    · gi_wp2
      go_end0
      refine ⟨⟨_, rfl⟩, .inl ⟨pre, ?_, HJ.out⟩⟩
      have := HF.out.2
      rw [List.drop_eq_nil_of_le (by rw [Hlen.out]; omega), runesG_nil] at this
      rw [this]; simp
end Go.Proofs.YtfeciafdioepiaaGreatDoor
