/- Functions and contracts. -/
import Derived.Test.YtfeciafdioepiaaGreatDoorHPbS2
import Derived.Test.YtfeciafdioepiaaGreatDoorHPbS5
namespace Go.Proofs.YtfeciafdioepiaaGreatDoor.PA
open Go.RowKit Go.Proofs.YtfeciafdioepiaaGreatDoorW.PrintWords Go.Proofs.YtfeciafdioepiaaGreatDoorW.PrintLast Go.Proofs.YtfeciafdioepiaaGreatDoorW.PrintMore
attribute [local go_sem] max2_int min2_int max_two min_two max_three min_three max_four min_four   -- for this text's walks alone
set_option linter.unusedVariables false
set_option linter.unusedSimpArgs false

/-! ### bulletinref09_ValidName: function 62 -/
mutual
def bulletinref09_ValidName.j0 : Nat → ByteArray → Bool → Option (Bool)
  | 0, _, _ => none
  | k + 1, x0, x12 => if x12 = true then (some false) else (bulletinref09_ValidName.l0 k x0 0)
def bulletinref09_ValidName.l0 : Nat → ByteArray → Int → Option (Bool)
  | 0, _, _ => none
  | k + 1, x0, x3 => if x3 < (x0.size : Int) then (if 0 ≤ x3 then ((bulletinref01_Lowercase.f (bt x0 x3)).bind fun t155 => (if t155 = true then (bulletinref09_ValidName.l0 k x0 (wrap64 (x3 + 1))) else ((bulletinref01_Uppercase.f (bt x0 x3)).bind fun t156 => (if t156 = true then (bulletinref09_ValidName.l0 k x0 (wrap64 (x3 + 1))) else (if x3 = 0 then (some false) else ((bulletinref01_Digit.f (bt x0 x3)).bind fun t157 => (if t157 = true then (bulletinref09_ValidName.l0 k x0 (wrap64 (x3 + 1))) else (if (bt x0 x3) = 45 then (bulletinref09_ValidName.l0 k x0 (wrap64 (x3 + 1))) else (some false))))))))) else (none)) else (some true)
end
def bulletinref09_ValidName.f (k : Nat) (a0 : ByteArray) : Option (Bool) := if (a0.size : Int) < 1 then (bulletinref09_ValidName.j0 k a0 true) else (bulletinref09_ValidName.j0 k a0 (decide ((a0.size : Int) > 40)))
set_option maxHeartbeats 8000000 in
set_option maxRecDepth 100000 in
theorem bulletinref09_ValidName.calls (k : Nat) (a0 : ByteArray) (r : Bool) (w : World) (h : bulletinref09_ValidName.f k a0 = some r) :
    Calls Tryz.prog 62 #[.string a0] w fun e w' => e = .returned (.bool r) ∧ Drawn0 w w' := by
  have H : (if (a0.size : Int) < 1 then (bulletinref09_ValidName.j0 k a0 true) else (bulletinref09_ValidName.j0 k a0 (decide ((a0.size : Int) > 40)))) = some r := h
  clear h
  have HC2 := Aside0.mk H
  clear H
  go_enter Tryz.func62, Tryz.ntmps62
  go_upto_region 1 with (fail)
  go_cut [12] (fun v12 wc => ∃ (kq : Nat) (x12_1 : Bool), v12 = .bool x12_1 ∧ Aside0 (bulletinref09_ValidName.j0 kq a0 x12_1 = some r) ∧ Aside0 (kq ≤ k) ∧ Drawn0 w wc)
  case first =>
    have H := HC2.out
    clear HC2
    by_cases c3 : (a0.size : Int) < 1
    · rw [if_pos c3] at H
      have c3b0 : decide ((a0.size : Int) < 1) = true := decide_eq_true c3
      have c3b1 : decide (a0.size < 1) = true := decide_eq_true (by omega)
      clear c3
      (first | rw [c3b0] | (simp only [i64_w, i32_w]; rw [c3b0]) | skip)
      have H' := Aside0.mk H
      clear H
      go_wp2
      go_meet
      case rel => exact ⟨_, (true), (by first | rfl | (simp; done) | (simp [*]; done)), H', ⟨by first | omega | exact Nat.le_refl _⟩, by repeat (first | exact Drawn0.refl _ | apply Drawn0.step)⟩
    · rw [if_neg c3] at H
      have c3b0 : decide ((a0.size : Int) < 1) = false := decide_eq_false c3
      have c3b1 : decide (a0.size < 1) = false := decide_eq_false (by omega)
      clear c3
      (first | rw [c3b0] | (simp only [i64_w, i32_w]; rw [c3b0]) | skip)
      have H' := Aside0.mk H
      clear H
      go_wp2
      go_meet
      case rel => exact ⟨_, (decide ((a0.size : Int) > 40)), (by first | rfl | (simp; done) | (simp [*]; done)), H', ⟨by first | omega | exact Nat.le_refl _⟩, by repeat (first | exact Drawn0.refl _ | apply Drawn0.step)⟩
  case rest =>
    clear HC2
    try clear p2
    try clear c3
    try clear c3b0
    try clear c3b1
    obtain ⟨kq, x12_1, rfl, HA, HJ1, ⟨mc1, rfl⟩⟩ := hcut
    cases kq with
    | zero => exact absurd HA.out (by simp [bulletinref09_ValidName.j0])
    | succ kj1 =>
      have H := HA.out
      clear HA
      simp only [bulletinref09_ValidName.j0] at H
      by_cases c4 : x12_1 = true
      · subst c4
        have H1 : (some false) = some r := by rw [if_pos rfl] at H; exact H
        clear H
        have H := H1
        clear H1
        obtain rfl := Option.some.inj H
        go_wp2
        go_ret
        exact ⟨by first | rfl | (simp; done) | (simp [*]; done), by repeat (first | exact Drawn0.refl _ | apply Drawn0.step)⟩
      · replace c4 := Bool.eq_false_iff.mpr c4
        subst c4
        have H1 : (bulletinref09_ValidName.l0 kj1 a0 0) = some r := by rw [if_neg (show ¬ (false = true) by decide)] at H; exact H
        clear H
        have H := H1
        clear H1
        have H' := Aside0.mk H
        clear H
        go_wp2
        go_loopg [3] kj1 (fun kq v3 w' => ∃ (x3_2 : Int), v3 = .int .i64 x3_2 ∧ Aside0 (bulletinref09_ValidName.l0 kq a0 x3_2 = some r) ∧ Aside0 (kq ≤ kj1) ∧ Drawn0 w w')
        case atStart => exact ⟨(0), (by first | rfl | (simp; done) | (simp [*]; done)), H', ⟨Nat.le_refl _⟩, by repeat (first | exact Drawn0.refl _ | apply Drawn0.step)⟩
        case round =>
          clear H'
          try clear c1
          try clear p2
          try clear c3
          try clear c3b0
          try clear c3b1
          try clear c4
          try clear p2
          obtain ⟨x3_2, rfl, HA, HK2, ⟨m2, rfl⟩⟩ := hrel
          cases gk with
          | zero => exact absurd HA.out (by simp [bulletinref09_ValidName.l0])
          | succ k2 =>
            have H := HA.out
            clear HA
            simp only [bulletinref09_ValidName.l0] at H
            by_cases c5 : x3_2 < (a0.size : Int)
            · rw [if_pos c5] at H
              have c5b0 : decide (x3_2 < (a0.size : Int)) = true := decide_eq_true c5
              clear c5
              by_cases c6 : 0 ≤ x3_2
              · rw [if_pos c6] at H
                have c6b0 : decide (0 ≤ x3_2) = true := decide_eq_true c6
                clear c6
                replace H := Option.bind_eq_some_iff.mp H
                obtain ⟨t155, A80, H⟩ := H
                replace H : (if t155 = true then (bulletinref09_ValidName.l0 k2 a0 (wrap64 (x3_2 + 1))) else ((bulletinref01_Uppercase.f (bt a0 x3_2)).bind fun t156 => (if t156 = true then (bulletinref09_ValidName.l0 k2 a0 (wrap64 (x3_2 + 1))) else (if x3_2 = 0 then (some false) else ((bulletinref01_Digit.f (bt a0 x3_2)).bind fun t157 => (if t157 = true then (bulletinref09_ValidName.l0 k2 a0 (wrap64 (x3_2 + 1))) else (if (bt a0 x3_2) = 45 then (bulletinref09_ValidName.l0 k2 a0 (wrap64 (x3_2 + 1))) else (some false)))))))) = some r := H
                have A8 := Aside0.mk A80
                clear A80
                by_cases c9 : t155 = true
                · subst c9
                  have H1 : (bulletinref09_ValidName.l0 k2 a0 (wrap64 (x3_2 + 1))) = some r := by rw [if_pos rfl] at H; exact H
                  clear H
                  have H := H1
                  clear H1
                  have H' := Aside0.mk H
                  clear H
                  have p7 : 0 ≤ (x3_2 : Int) := of_decide_eq_true (by first | (with_reducible assumption) | assumption)
                  have q7 : x3_2 < (a0.size : Int) := of_decide_eq_true (by first | (with_reducible assumption) | assumption)
                  have hx7 := bt_at a0 x3_2
                  replace p7 := eq_true p7
                  replace q7 := eq_true q7
                  go_wp2_with (first | ((with_reducible refine gate_callee (f := 86) rfl ?_); refine goesL_ (some 22) rfl rfl Tryz.func86 (by kernel_rfl) rfl #[.int .u8 (bt a0 x3_2)] rfl (by (try simp only [List.map_toArray, List.map_cons, List.map_nil]); first | done | rfl | (simp only [List.length_drop, List.length_take]; rfl)) ?_; (with_reducible refine (bulletinref01_Lowercase.calls (bt a0 x3_2) true _ A8.out).mono ?_); rintro e w' ⟨rfl, ⟨nd, rfl⟩⟩; refine ⟨_, rfl, ?_⟩))
                  go_roundg k2
                  case measure => have := HJ1.out; have := HK2.out; omega
                  case rel => exact ⟨(wrap64 (x3_2 + 1)), (by first | rfl | (simp; done) | (simp [*]; done)), H', ⟨by have := HJ1.out; have := HK2.out; omega⟩, by repeat (first | exact Drawn0.refl _ | apply Drawn0.step)⟩
                · replace c9 := Bool.eq_false_iff.mpr c9
                  subst c9
                  have H1 : ((bulletinref01_Uppercase.f (bt a0 x3_2)).bind fun t156 => (if t156 = true then (bulletinref09_ValidName.l0 k2 a0 (wrap64 (x3_2 + 1))) else (if x3_2 = 0 then (some false) else ((bulletinref01_Digit.f (bt a0 x3_2)).bind fun t157 => (if t157 = true then (bulletinref09_ValidName.l0 k2 a0 (wrap64 (x3_2 + 1))) else (if (bt a0 x3_2) = 45 then (bulletinref09_ValidName.l0 k2 a0 (wrap64 (x3_2 + 1))) else (some false))))))) = some r := by rw [if_neg (show ¬ (false = true) by decide)] at H; exact H
                  clear H
                  have H := H1
                  clear H1
                  replace H := Option.bind_eq_some_iff.mp H
                  obtain ⟨t156, A110, H⟩ := H
                  replace H : (if t156 = true then (bulletinref09_ValidName.l0 k2 a0 (wrap64 (x3_2 + 1))) else (if x3_2 = 0 then (some false) else ((bulletinref01_Digit.f (bt a0 x3_2)).bind fun t157 => (if t157 = true then (bulletinref09_ValidName.l0 k2 a0 (wrap64 (x3_2 + 1))) else (if (bt a0 x3_2) = 45 then (bulletinref09_ValidName.l0 k2 a0 (wrap64 (x3_2 + 1))) else (some false)))))) = some r := H
                  have A11 := Aside0.mk A110
                  clear A110
                  by_cases c12 : t156 = true
                  · subst c12
                    have H1 : (bulletinref09_ValidName.l0 k2 a0 (wrap64 (x3_2 + 1))) = some r := by rw [if_pos rfl] at H; exact H
                    clear H
                    have H := H1
                    clear H1
                    have H' := Aside0.mk H
                    clear H
                    have p7 : 0 ≤ (x3_2 : Int) := of_decide_eq_true (by first | (with_reducible assumption) | assumption)
                    have q7 : x3_2 < (a0.size : Int) := of_decide_eq_true (by first | (with_reducible assumption) | assumption)
                    have hx7 := bt_at a0 x3_2
                    replace p7 := eq_true p7
                    replace q7 := eq_true q7
                    go_wp2_with (first | ((with_reducible refine gate_callee (f := 86) rfl ?_); refine goesL_ (some 22) rfl rfl Tryz.func86 (by kernel_rfl) rfl #[.int .u8 (bt a0 x3_2)] rfl (by (try simp only [List.map_toArray, List.map_cons, List.map_nil]); first | done | rfl | (simp only [List.length_drop, List.length_take]; rfl)) ?_; (with_reducible refine (bulletinref01_Lowercase.calls (bt a0 x3_2) false _ A8.out).mono ?_); rintro e w' ⟨rfl, ⟨nd, rfl⟩⟩; refine ⟨_, rfl, ?_⟩; have p10 : 0 ≤ (x3_2 : Int) := of_decide_eq_true (by first | (with_reducible assumption) | assumption); have q10 : x3_2 < (a0.size : Int) := of_decide_eq_true (by first | (with_reducible assumption) | assumption); have hx10 := bt_at a0 x3_2; replace p10 := eq_true p10; replace q10 := eq_true q10) | (go_at_call 87; (with_reducible refine (bulletinref01_Uppercase.calls (bt a0 x3_2) true _ A11.out).mono ?_); rintro e w' ⟨rfl, ⟨nd, rfl⟩⟩))
                    go_roundg k2
                    case measure => have := HJ1.out; have := HK2.out; omega
                    case rel => exact ⟨(wrap64 (x3_2 + 1)), (by first | rfl | (simp; done) | (simp [*]; done)), H', ⟨by have := HJ1.out; have := HK2.out; omega⟩, by repeat (first | exact Drawn0.refl _ | apply Drawn0.step)⟩
                  · replace c12 := Bool.eq_false_iff.mpr c12
                    subst c12
                    have H1 : (if x3_2 = 0 then (some false) else ((bulletinref01_Digit.f (bt a0 x3_2)).bind fun t157 => (if t157 = true then (bulletinref09_ValidName.l0 k2 a0 (wrap64 (x3_2 + 1))) else (if (bt a0 x3_2) = 45 then (bulletinref09_ValidName.l0 k2 a0 (wrap64 (x3_2 + 1))) else (some false))))) = some r := by rw [if_neg (show ¬ (false = true) by decide)] at H; exact H
                    clear H
                    have H := H1
                    clear H1
                    by_cases c13 : x3_2 = 0
                    · rw [if_pos c13] at H
                      have c13b0 : (x3_2 == 0) = true := beq_iff_eq.mpr c13
                      have c13b1 : (x3_2 != 0) = false := bne_eq_false_iff_eq.mpr c13
                      clear c13
                      obtain rfl := Option.some.inj H
                      have p7 : 0 ≤ (x3_2 : Int) := of_decide_eq_true (by first | (with_reducible assumption) | assumption)
                      have q7 : x3_2 < (a0.size : Int) := of_decide_eq_true (by first | (with_reducible assumption) | assumption)
                      have hx7 := bt_at a0 x3_2
                      replace p7 := eq_true p7
                      replace q7 := eq_true q7
                      go_wp2_with (first | ((with_reducible refine gate_callee (f := 86) rfl ?_); refine goesL_ (some 22) rfl rfl Tryz.func86 (by kernel_rfl) rfl #[.int .u8 (bt a0 x3_2)] rfl (by (try simp only [List.map_toArray, List.map_cons, List.map_nil]); first | done | rfl | (simp only [List.length_drop, List.length_take]; rfl)) ?_; (with_reducible refine (bulletinref01_Lowercase.calls (bt a0 x3_2) false _ A8.out).mono ?_); rintro e w' ⟨rfl, ⟨nd, rfl⟩⟩; refine ⟨_, rfl, ?_⟩; have p10 : 0 ≤ (x3_2 : Int) := of_decide_eq_true (by first | (with_reducible assumption) | assumption); have q10 : x3_2 < (a0.size : Int) := of_decide_eq_true (by first | (with_reducible assumption) | assumption); have hx10 := bt_at a0 x3_2; replace p10 := eq_true p10; replace q10 := eq_true q10) | (go_at_call 87; (with_reducible refine (bulletinref01_Uppercase.calls (bt a0 x3_2) false _ A11.out).mono ?_); rintro e w' ⟨rfl, ⟨nd, rfl⟩⟩))
                      go_ret
                      exact ⟨by first | rfl | (simp; done) | (simp [*]; done), by repeat (first | exact Drawn0.refl _ | apply Drawn0.step)⟩
                    · rw [if_neg c13] at H
                      have c13b0 : (x3_2 == 0) = false := beq_eq_false_iff_ne.mpr c13
                      have c13b1 : (x3_2 != 0) = true := bne_iff_ne.mpr c13
                      replace H := Option.bind_eq_some_iff.mp H
                      obtain ⟨t157, A150, H⟩ := H
                      replace H : (if t157 = true then (bulletinref09_ValidName.l0 k2 a0 (wrap64 (x3_2 + 1))) else (if (bt a0 x3_2) = 45 then (bulletinref09_ValidName.l0 k2 a0 (wrap64 (x3_2 + 1))) else (some false))) = some r := H
                      have A15 := Aside0.mk A150
                      clear A150
                      by_cases c16 : t157 = true
                      · subst c16
                        have H1 : (bulletinref09_ValidName.l0 k2 a0 (wrap64 (x3_2 + 1))) = some r := by rw [if_pos rfl] at H; exact H
                        clear H
                        have H := H1
                        clear H1
                        have H' := Aside0.mk H
                        clear H
                        have p7 : 0 ≤ (x3_2 : Int) := of_decide_eq_true (by first | (with_reducible assumption) | assumption)
                        have q7 : x3_2 < (a0.size : Int) := of_decide_eq_true (by first | (with_reducible assumption) | assumption)
                        have hx7 := bt_at a0 x3_2
                        replace p7 := eq_true p7
                        replace q7 := eq_true q7
                        go_wp2_with (first | ((with_reducible refine gate_callee (f := 86) rfl ?_); refine goesL_ (some 22) rfl rfl Tryz.func86 (by kernel_rfl) rfl #[.int .u8 (bt a0 x3_2)] rfl (by (try simp only [List.map_toArray, List.map_cons, List.map_nil]); first | done | rfl | (simp only [List.length_drop, List.length_take]; rfl)) ?_; (with_reducible refine (bulletinref01_Lowercase.calls (bt a0 x3_2) false _ A8.out).mono ?_); rintro e w' ⟨rfl, ⟨nd, rfl⟩⟩; refine ⟨_, rfl, ?_⟩; have p10 : 0 ≤ (x3_2 : Int) := of_decide_eq_true (by first | (with_reducible assumption) | assumption); have q10 : x3_2 < (a0.size : Int) := of_decide_eq_true (by first | (with_reducible assumption) | assumption); have hx10 := bt_at a0 x3_2; replace p10 := eq_true p10; replace q10 := eq_true q10) | (go_at_call 87; (with_reducible refine (bulletinref01_Uppercase.calls (bt a0 x3_2) false _ A11.out).mono ?_); rintro e w' ⟨rfl, ⟨nd, rfl⟩⟩; have p14 : 0 ≤ (x3_2 : Int) := of_decide_eq_true (by first | (with_reducible assumption) | assumption); have q14 : x3_2 < (a0.size : Int) := of_decide_eq_true (by first | (with_reducible assumption) | assumption); have hx14 := bt_at a0 x3_2; replace p14 := eq_true p14; replace q14 := eq_true q14) | (go_at_call 88; (with_reducible refine (bulletinref01_Digit.calls (bt a0 x3_2) true _ A15.out).mono ?_); rintro e w' ⟨rfl, ⟨nd, rfl⟩⟩))
                        go_roundg k2
                        case measure => have := HJ1.out; have := HK2.out; omega
                        case rel => exact ⟨(wrap64 (x3_2 + 1)), (by first | rfl | (simp; done) | (simp [*]; done)), H', ⟨by have := HJ1.out; have := HK2.out; omega⟩, by repeat (first | exact Drawn0.refl _ | apply Drawn0.step)⟩
                      · replace c16 := Bool.eq_false_iff.mpr c16
                        subst c16
                        have H1 : (if (bt a0 x3_2) = 45 then (bulletinref09_ValidName.l0 k2 a0 (wrap64 (x3_2 + 1))) else (some false)) = some r := by rw [if_neg (show ¬ (false = true) by decide)] at H; exact H
                        clear H
                        have H := H1
                        clear H1
                        by_cases c18 : (bt a0 x3_2) = 45
                        · rw [if_pos c18] at H
                          have c18b0 : ((bt a0 x3_2) == 45) = true := beq_iff_eq.mpr c18
                          have c18b1 : ((bt a0 x3_2) != 45) = false := bne_eq_false_iff_eq.mpr c18
                          clear c18
                          have H' := Aside0.mk H
                          clear H
                          have p7 : 0 ≤ (x3_2 : Int) := of_decide_eq_true (by first | (with_reducible assumption) | assumption)
                          have q7 : x3_2 < (a0.size : Int) := of_decide_eq_true (by first | (with_reducible assumption) | assumption)
                          have hx7 := bt_at a0 x3_2
                          replace p7 := eq_true p7
                          replace q7 := eq_true q7
                          go_wp2_with (first | ((with_reducible refine gate_callee (f := 86) rfl ?_); refine goesL_ (some 22) rfl rfl Tryz.func86 (by kernel_rfl) rfl #[.int .u8 (bt a0 x3_2)] rfl (by (try simp only [List.map_toArray, List.map_cons, List.map_nil]); first | done | rfl | (simp only [List.length_drop, List.length_take]; rfl)) ?_; (with_reducible refine (bulletinref01_Lowercase.calls (bt a0 x3_2) false _ A8.out).mono ?_); rintro e w' ⟨rfl, ⟨nd, rfl⟩⟩; refine ⟨_, rfl, ?_⟩; have p10 : 0 ≤ (x3_2 : Int) := of_decide_eq_true (by first | (with_reducible assumption) | assumption); have q10 : x3_2 < (a0.size : Int) := of_decide_eq_true (by first | (with_reducible assumption) | assumption); have hx10 := bt_at a0 x3_2; replace p10 := eq_true p10; replace q10 := eq_true q10) | (go_at_call 87; (with_reducible refine (bulletinref01_Uppercase.calls (bt a0 x3_2) false _ A11.out).mono ?_); rintro e w' ⟨rfl, ⟨nd, rfl⟩⟩; have p14 : 0 ≤ (x3_2 : Int) := of_decide_eq_true (by first | (with_reducible assumption) | assumption); have q14 : x3_2 < (a0.size : Int) := of_decide_eq_true (by first | (with_reducible assumption) | assumption); have hx14 := bt_at a0 x3_2; replace p14 := eq_true p14; replace q14 := eq_true q14) | (go_at_call 88; (with_reducible refine (bulletinref01_Digit.calls (bt a0 x3_2) false _ A15.out).mono ?_); rintro e w' ⟨rfl, ⟨nd, rfl⟩⟩; have p17 : 0 ≤ (x3_2 : Int) := of_decide_eq_true (by first | (with_reducible assumption) | assumption); have q17 : x3_2 < (a0.size : Int) := of_decide_eq_true (by first | (with_reducible assumption) | assumption); have hx17 := bt_at a0 x3_2; replace p17 := eq_true p17; replace q17 := eq_true q17))
                          go_roundg k2
                          case measure => have := HJ1.out; have := HK2.out; omega
                          case rel => exact ⟨(wrap64 (x3_2 + 1)), (by first | rfl | (simp; done) | (simp [*]; done)), H', ⟨by have := HJ1.out; have := HK2.out; omega⟩, by repeat (first | exact Drawn0.refl _ | apply Drawn0.step)⟩
                        · rw [if_neg c18] at H
                          have c18b0 : ((bt a0 x3_2) == 45) = false := beq_eq_false_iff_ne.mpr c18
                          have c18b1 : ((bt a0 x3_2) != 45) = true := bne_iff_ne.mpr c18
                          obtain rfl := Option.some.inj H
                          have p7 : 0 ≤ (x3_2 : Int) := of_decide_eq_true (by first | (with_reducible assumption) | assumption)
                          have q7 : x3_2 < (a0.size : Int) := of_decide_eq_true (by first | (with_reducible assumption) | assumption)
                          have hx7 := bt_at a0 x3_2
                          replace p7 := eq_true p7
                          replace q7 := eq_true q7
                          go_wp2_with (first | ((with_reducible refine gate_callee (f := 86) rfl ?_); refine goesL_ (some 22) rfl rfl Tryz.func86 (by kernel_rfl) rfl #[.int .u8 (bt a0 x3_2)] rfl (by (try simp only [List.map_toArray, List.map_cons, List.map_nil]); first | done | rfl | (simp only [List.length_drop, List.length_take]; rfl)) ?_; (with_reducible refine (bulletinref01_Lowercase.calls (bt a0 x3_2) false _ A8.out).mono ?_); rintro e w' ⟨rfl, ⟨nd, rfl⟩⟩; refine ⟨_, rfl, ?_⟩; have p10 : 0 ≤ (x3_2 : Int) := of_decide_eq_true (by first | (with_reducible assumption) | assumption); have q10 : x3_2 < (a0.size : Int) := of_decide_eq_true (by first | (with_reducible assumption) | assumption); have hx10 := bt_at a0 x3_2; replace p10 := eq_true p10; replace q10 := eq_true q10) | (go_at_call 87; (with_reducible refine (bulletinref01_Uppercase.calls (bt a0 x3_2) false _ A11.out).mono ?_); rintro e w' ⟨rfl, ⟨nd, rfl⟩⟩; have p14 : 0 ≤ (x3_2 : Int) := of_decide_eq_true (by first | (with_reducible assumption) | assumption); have q14 : x3_2 < (a0.size : Int) := of_decide_eq_true (by first | (with_reducible assumption) | assumption); have hx14 := bt_at a0 x3_2; replace p14 := eq_true p14; replace q14 := eq_true q14) | (go_at_call 88; (with_reducible refine (bulletinref01_Digit.calls (bt a0 x3_2) false _ A15.out).mono ?_); rintro e w' ⟨rfl, ⟨nd, rfl⟩⟩; have p17 : 0 ≤ (x3_2 : Int) := of_decide_eq_true (by first | (with_reducible assumption) | assumption); have q17 : x3_2 < (a0.size : Int) := of_decide_eq_true (by first | (with_reducible assumption) | assumption); have hx17 := bt_at a0 x3_2; replace p17 := eq_true p17; replace q17 := eq_true q17))
                          go_ret
                          exact ⟨by first | rfl | (simp; done) | (simp [*]; done), by repeat (first | exact Drawn0.refl _ | apply Drawn0.step)⟩
              · rw [if_neg c6] at H
                exact absurd H (by simp)
            · rw [if_neg c5] at H
              have c5b0 : decide (x3_2 < (a0.size : Int)) = false := decide_eq_false c5
              clear c5
              obtain rfl := Option.some.inj H
              go_wp2
              go_ret
              exact ⟨by first | rfl | (simp; done) | (simp [*]; done), by repeat (first | exact Drawn0.refl _ | apply Drawn0.step)⟩

/-! ### bulletinref09_add: function 63 -/
mutual
def bulletinref09_add.l0 : Nat → ByteArray → ByteArray → Int → Int → Option (ByteArray × Int)
  | 0, _, _, _, _ => none
  | k + 1, x0, x1, x3, x10 => if x10 < x3 then (if 0 ≤ x10 then (if x10 < (x1.size : Int) then ((bulletinref01_Blank.f (bt x1 x10)).bind fun t158 => (if t158 = true then (bulletinref09_add.l0 k x0 x1 x3 (wrap64 (x10 + 1))) else (bulletinref09_add.l1 k x0 x1 x3 x10 x10))) else (none)) else (none)) else (some (x0, (-1)))
def bulletinref09_add.j2 : Nat → ByteArray → ByteArray → Int → Int → Int → Option (ByteArray × Int)
  | 0, _, _, _, _, _ => none
  | k + 1, x0, x1, x3, x10, x11 => if (wrap64 (x11 - x10)) > 900 then (some (x0, x10)) else (if x0.toList = ([] : List UInt8) then (if 0 ≤ x10 then (if x10 ≤ x11 then (if x11 ≤ (x1.size : Int) then (if x0.size + (x1.extract (x10 : Int).toNat (x11 : Int).toNat).size ≤ 9223372036854775807 then (bulletinref09_add.l0 k (x0 ++ (x1.extract (x10 : Int).toNat (x11 : Int).toNat)) x1 x3 x11) else (none)) else (none)) else (none)) else (none)) else (if x0.size + 1 ≤ 9223372036854775807 then (if 0 ≤ x10 then (if x10 ≤ x11 then (if x11 ≤ (x1.size : Int) then (if (x0 ++ (⟨#[32]⟩ : ByteArray)).size + (x1.extract (x10 : Int).toNat (x11 : Int).toNat).size ≤ 9223372036854775807 then (bulletinref09_add.l0 k ((x0 ++ (⟨#[32]⟩ : ByteArray)) ++ (x1.extract (x10 : Int).toNat (x11 : Int).toNat)) x1 x3 x11) else (none)) else (none)) else (none)) else (none)) else (none)))
def bulletinref09_add.l1 : Nat → ByteArray → ByteArray → Int → Int → Int → Option (ByteArray × Int)
  | 0, _, _, _, _, _ => none
  | k + 1, x0, x1, x3, x10, x11 => if x11 < x3 then (if 0 ≤ x11 then (if x11 < (x1.size : Int) then ((bulletinref01_Blank.f (bt x1 x11)).bind fun t159 => (if t159 = true then (bulletinref09_add.j2 k x0 x1 x3 x10 x11) else (bulletinref09_add.l1 k x0 x1 x3 x10 (wrap64 (x11 + 1))))) else (none)) else (none)) else (bulletinref09_add.j2 k x0 x1 x3 x10 x11)
end
def bulletinref09_add.f (k : Nat) (a0 : ByteArray) (a1 : ByteArray) (a2 : Int) (a3 : Int) : Option (ByteArray × Int) := bulletinref09_add.l0 k a0 a1 a3 a2
set_option maxHeartbeats 8000000 in
set_option maxRecDepth 100000 in
theorem bulletinref09_add.calls (k : Nat) (a0 : ByteArray) (a1 : ByteArray) (a2 : Int) (a3 : Int) (r1 : ByteArray) (r2 : Int) (w : World) (h : bulletinref09_add.f k a0 a1 a2 a3 = some (r1, r2)) :
    Calls Tryz.prog 63 #[.string a0, .string a1, .int .i64 a2, .int .i64 a3] w fun e w' => e = .returned (.tuple #[.string r1, .int .i64 r2]) ∧ Drawn0 w w' := by
  have H : (bulletinref09_add.l0 k a0 a1 a3 a2) = some (r1, r2) := h
  clear h
  have H' := Aside0.mk H
  clear H
  go_enter Tryz.func63, Tryz.ntmps63
  go_wp2
  go_loopg [0, 10] k (fun kq v0 v10 w' => ∃ (x0_1 : ByteArray) (x10_1 : Int), v0 = .string x0_1 ∧ v10 = .int .i64 x10_1 ∧ Aside0 (bulletinref09_add.l0 kq x0_1 a1 a3 x10_1 = some (r1, r2)) ∧ Aside0 (kq ≤ k) ∧ Drawn0 w w')
  case atStart => exact ⟨(a0), (a2), (by first | rfl | (simp; done) | (simp [*]; done)), (by first | rfl | (simp; done) | (simp [*]; done)), H', ⟨Nat.le_refl _⟩, by repeat (first | exact Drawn0.refl _ | apply Drawn0.step)⟩
  case round =>
    clear H'
    try clear p2
    obtain ⟨x0_1, x10_1, rfl, rfl, HA, HK1, ⟨m1, rfl⟩⟩ := hrel
    cases gk with
    | zero => exact absurd HA.out (by simp [bulletinref09_add.l0])
    | succ k1 =>
      have H := HA.out
      clear HA
      simp only [bulletinref09_add.l0] at H
      by_cases c5 : x10_1 < a3
      · rw [if_pos c5] at H
        have c5b0 : decide (x10_1 < a3) = true := decide_eq_true c5
        clear c5
        by_cases c6 : 0 ≤ x10_1
        · rw [if_pos c6] at H
          have c6b0 : decide (0 ≤ x10_1) = true := decide_eq_true c6
          clear c6
          by_cases c7 : x10_1 < (a1.size : Int)
          · rw [if_pos c7] at H
            have c7b0 : decide (x10_1 < (a1.size : Int)) = true := decide_eq_true c7
            clear c7
            replace H := Option.bind_eq_some_iff.mp H
            obtain ⟨t158, A90, H⟩ := H
            replace H : (if t158 = true then (bulletinref09_add.l0 k1 x0_1 a1 a3 (wrap64 (x10_1 + 1))) else (bulletinref09_add.l1 k1 x0_1 a1 a3 x10_1 x10_1)) = some (r1, r2) := H
            have A9 := Aside0.mk A90
            clear A90
            by_cases c10 : t158 = true
            · subst c10
              have H1 : (bulletinref09_add.l0 k1 x0_1 a1 a3 (wrap64 (x10_1 + 1))) = some (r1, r2) := by rw [if_pos rfl] at H; exact H
              clear H
              have H := H1
              clear H1
              have H' := Aside0.mk H
              clear H
              have p8 : 0 ≤ (x10_1 : Int) := of_decide_eq_true (by first | (with_reducible assumption) | assumption)
              have q8 : x10_1 < (a1.size : Int) := of_decide_eq_true (by first | (with_reducible assumption) | assumption)
              have hx8 := bt_at a1 x10_1
              replace p8 := eq_true p8
              replace q8 := eq_true q8
              go_wp2_with (first | ((with_reducible refine gate_callee (f := 61) rfl ?_); refine goesL_ (some 19) rfl rfl Tryz.func61 (by kernel_rfl) rfl #[.int .u8 (bt a1 x10_1)] rfl (by (try simp only [List.map_toArray, List.map_cons, List.map_nil]); first | done | rfl | (simp only [List.length_drop, List.length_take]; rfl)) ?_; (with_reducible refine (bulletinref01_Blank.calls (bt a1 x10_1) true _ A9.out).mono ?_); rintro e w' ⟨rfl, ⟨nd, rfl⟩⟩; refine ⟨_, rfl, ?_⟩))
              go_roundg k1
              case measure => have := HK1.out; omega
              case rel => exact ⟨(x0_1), (wrap64 (x10_1 + 1)), (by first | rfl | (simp; done) | (simp [*]; done)), (by first | rfl | (simp; done) | (simp [*]; done)), H', ⟨by have := HK1.out; omega⟩, by repeat (first | exact Drawn0.refl _ | apply Drawn0.step)⟩
            · replace c10 := Bool.eq_false_iff.mpr c10
              subst c10
              have H1 : (bulletinref09_add.l1 k1 x0_1 a1 a3 x10_1 x10_1) = some (r1, r2) := by rw [if_neg (show ¬ (false = true) by decide)] at H; exact H
              clear H
              have H := H1
              clear H1
              have HC11 := Aside0.mk H
              clear H
              have p8 : 0 ≤ (x10_1 : Int) := of_decide_eq_true (by first | (with_reducible assumption) | assumption)
              have q8 : x10_1 < (a1.size : Int) := of_decide_eq_true (by first | (with_reducible assumption) | assumption)
              have hx8 := bt_at a1 x10_1
              replace p8 := eq_true p8
              replace q8 := eq_true q8
              go_upto_block 2 with (first | ((with_reducible refine gate_callee (f := 61) rfl ?_); refine goesL_ (some 19) rfl rfl Tryz.func61 (by kernel_rfl) rfl #[.int .u8 (bt a1 x10_1)] rfl (by (try simp only [List.map_toArray, List.map_cons, List.map_nil]); first | done | rfl | (simp only [List.length_drop, List.length_take]; rfl)) ?_; (with_reducible refine (bulletinref01_Blank.calls (bt a1 x10_1) false _ A9.out).mono ?_); rintro e w' ⟨rfl, ⟨nd, rfl⟩⟩; refine ⟨_, rfl, ?_⟩))
              (try simp only [Act.put, List.setIfInBounds_toArray, List.set_cons_zero, List.set_cons_succ])
              go_cut [11] (fun v11 wc => ∃ (kq : Nat) (x11_10 : Int), v11 = .int .i64 x11_10 ∧ Aside0 (bulletinref09_add.j2 kq x0_1 a1 a3 x10_1 x11_10 = some (r1, r2)) ∧ Aside0 (kq ≤ k1) ∧ Drawn0 w wc)
              case first =>
                have H := HC11.out
                clear HC11
                have H' := Aside0.mk H
                clear H
                go_wp2
                go_loopg [11] k1 (fun kq v11 w' => ∃ (x11_2 : Int), v11 = .int .i64 x11_2 ∧ Aside0 (bulletinref09_add.l1 kq x0_1 a1 a3 x10_1 x11_2 = some (r1, r2)) ∧ Aside0 (kq ≤ k1) ∧ Drawn0 w w')
                case atStart => exact ⟨(x10_1), (by first | rfl | (simp; done) | (simp [*]; done)), H', ⟨Nat.le_refl _⟩, by repeat (first | exact Drawn0.refl _ | apply Drawn0.step)⟩
                case round =>
                  clear H'
                  try clear c1
                  try clear p2
                  try clear c5
                  try clear c5b0
                  try clear c6
                  try clear c6b0
                  try clear p6
                  try clear c7
                  try clear c7b0
                  try clear p8
                  try clear q8
                  try clear hx8
                  try clear c10
                  try clear p2
                  try clear p8
                  try clear q8
                  obtain ⟨x11_2, rfl, HA, HK2, ⟨m2, rfl⟩⟩ := hrel
                  cases gk with
                  | zero => exact absurd HA.out (by simp [bulletinref09_add.l1])
                  | succ k2 =>
                    have H := HA.out
                    clear HA
                    simp only [bulletinref09_add.l1] at H
                    by_cases c12 : x11_2 < a3
                    · rw [if_pos c12] at H
                      have c12b0 : decide (x11_2 < a3) = true := decide_eq_true c12
                      clear c12
                      (first | rw [c12b0] | (simp only [i64_w, i32_w]; rw [c12b0]) | skip)
                      by_cases c13 : 0 ≤ x11_2
                      · rw [if_pos c13] at H
                        have c13b0 : decide (0 ≤ x11_2) = true := decide_eq_true c13
                        clear c13
                        by_cases c14 : x11_2 < (a1.size : Int)
                        · rw [if_pos c14] at H
                          have c14b0 : decide (x11_2 < (a1.size : Int)) = true := decide_eq_true c14
                          clear c14
                          replace H := Option.bind_eq_some_iff.mp H
                          obtain ⟨t159, A160, H⟩ := H
                          replace H : (if t159 = true then (bulletinref09_add.j2 k2 x0_1 a1 a3 x10_1 x11_2) else (bulletinref09_add.l1 k2 x0_1 a1 a3 x10_1 (wrap64 (x11_2 + 1)))) = some (r1, r2) := H
                          have A16 := Aside0.mk A160
                          clear A160
                          by_cases c17 : t159 = true
                          · subst c17
                            have H1 : (bulletinref09_add.j2 k2 x0_1 a1 a3 x10_1 x11_2) = some (r1, r2) := by rw [if_pos rfl] at H; exact H
                            clear H
                            have H := H1
                            clear H1
                            have H' := Aside0.mk H
                            clear H
                            have p15 : 0 ≤ (x11_2 : Int) := of_decide_eq_true (by first | (with_reducible assumption) | assumption)
                            have q15 : x11_2 < (a1.size : Int) := of_decide_eq_true (by first | (with_reducible assumption) | assumption)
                            have hx15 := bt_at a1 x11_2
                            replace p15 := eq_true p15
                            replace q15 := eq_true q15
                            go_wp2_with (first | (go_at_call 61; (with_reducible refine (bulletinref01_Blank.calls (bt a1 x11_2) true _ A16.out).mono ?_); rintro e w' ⟨rfl, ⟨nd, rfl⟩⟩))
                            go_meet
                            case rel => exact ⟨_, (x11_2), (by first | rfl | (simp; done) | (simp [*]; done)), H', ⟨by have := HK1.out; have := HK2.out; first | omega | exact Nat.le_refl _⟩, by repeat (first | exact Drawn0.refl _ | apply Drawn0.step)⟩
                          · replace c17 := Bool.eq_false_iff.mpr c17
                            subst c17
                            have H1 : (bulletinref09_add.l1 k2 x0_1 a1 a3 x10_1 (wrap64 (x11_2 + 1))) = some (r1, r2) := by rw [if_neg (show ¬ (false = true) by decide)] at H; exact H
                            clear H
                            have H := H1
                            clear H1
                            have H' := Aside0.mk H
                            clear H
                            have p15 : 0 ≤ (x11_2 : Int) := of_decide_eq_true (by first | (with_reducible assumption) | assumption)
                            have q15 : x11_2 < (a1.size : Int) := of_decide_eq_true (by first | (with_reducible assumption) | assumption)
                            have hx15 := bt_at a1 x11_2
                            replace p15 := eq_true p15
                            replace q15 := eq_true q15
                            go_wp2_with (first | (go_at_call 61; (with_reducible refine (bulletinref01_Blank.calls (bt a1 x11_2) false _ A16.out).mono ?_); rintro e w' ⟨rfl, ⟨nd, rfl⟩⟩))
                            go_roundg k2
                            case measure => have := HK1.out; have := HK2.out; omega
                            case rel => exact ⟨(wrap64 (x11_2 + 1)), (by first | rfl | (simp; done) | (simp [*]; done)), H', ⟨by have := HK1.out; have := HK2.out; omega⟩, by repeat (first | exact Drawn0.refl _ | apply Drawn0.step)⟩
                        · rw [if_neg c14] at H
                          exact absurd H (by simp)
                      · rw [if_neg c13] at H
                        exact absurd H (by simp)
                    · rw [if_neg c12] at H
                      have c12b0 : decide (x11_2 < a3) = false := decide_eq_false c12
                      clear c12
                      (first | rw [c12b0] | (simp only [i64_w, i32_w]; rw [c12b0]) | skip)
                      have H' := Aside0.mk H
                      clear H
                      go_wp2
                      go_meet
                      case rel => exact ⟨_, (x11_2), (by first | rfl | (simp; done) | (simp [*]; done)), H', ⟨by have := HK1.out; have := HK2.out; first | omega | exact Nat.le_refl _⟩, by repeat (first | exact Drawn0.refl _ | apply Drawn0.step)⟩
              case rest =>
                clear HC11
                try clear c1
                try clear p1
                try clear q1
                try clear hx1
                try clear p2
                try clear c5
                try clear c5b0
                try clear c6
                try clear c6b0
                try clear p6
                try clear c7
                try clear c7b0
                try clear p8
                try clear q8
                try clear hx8
                try clear c10
                try clear c12
                try clear c12b0
                try clear c13
                try clear c13b0
                try clear c14
                try clear c14b0
                try clear p15
                try clear q15
                try clear hx15
                try clear c17
                try clear p15
                try clear p2
                try clear p6
                try clear p8
                try clear q15
                try clear q8
                obtain ⟨kq, x11_10, rfl, HA, HJ10, ⟨mc10, rfl⟩⟩ := hcut
                cases kq with
                | zero => exact absurd HA.out (by simp [bulletinref09_add.j2])
                | succ kj10 =>
                  have H := HA.out
                  clear HA
                  simp only [bulletinref09_add.j2] at H
                  by_cases c18 : (wrap64 (x11_10 - x10_1)) > 900
                  · rw [if_pos c18] at H
                    have c18b0 : decide (900 < (wrap64 (x11_10 - x10_1))) = true := decide_eq_true c18
                    clear c18
                    simp only [Option.some.injEq, Prod.mk.injEq] at H
                    obtain ⟨rfl, rfl⟩ := H
                    go_wp2
                    go_ret2
                    exact ⟨by first | rfl | (simp; done) | (simp [*]; done), by repeat (first | exact Drawn0.refl _ | apply Drawn0.step)⟩
                  · rw [if_neg c18] at H
                    have c18b0 : decide (900 < (wrap64 (x11_10 - x10_1))) = false := decide_eq_false c18
                    clear c18
                    by_cases c19 : x0_1.toList = ([] : List UInt8)
                    · rw [if_pos c19] at H
                      have c19b0 : (x0_1.toList == ([] : List UInt8)) = true := beq_iff_eq.mpr c19
                      have c19b1 : (x0_1.toList != ([] : List UInt8)) = false := bne_eq_false_iff_eq.mpr c19
                      clear c19
                      by_cases c20 : 0 ≤ x10_1
                      · rw [if_pos c20] at H
                        have c20b0 := eq_true c20
                        have c20b1 : decide (0 ≤ x10_1) = true := decide_eq_true c20
                        clear c20
                        by_cases c21 : x10_1 ≤ x11_10
                        · rw [if_pos c21] at H
                          have c21b0 := eq_true c21
                          have c21b1 : decide (x10_1 ≤ x11_10) = true := decide_eq_true c21
                          clear c21
                          by_cases c22 : x11_10 ≤ (a1.size : Int)
                          · rw [if_pos c22] at H
                            have c22b0 := eq_true c22
                            have c22b1 : decide (x11_10 ≤ (a1.size : Int)) = true := decide_eq_true c22
                            clear c22
                            by_cases c23 : x0_1.size + (a1.extract (x10_1 : Int).toNat (x11_10 : Int).toNat).size ≤ 9223372036854775807
                            · rw [if_pos c23] at H
                              have c23b0 := eq_true c23
                              have c23b1 : decide (x0_1.size + (a1.extract (x10_1 : Int).toNat (x11_10 : Int).toNat).size ≤ 9223372036854775807) = true := decide_eq_true c23
                              try have c23b2 : (9223372036854775807 < x0_1.size + (a1.extract (x10_1 : Int).toNat (x11_10 : Int).toNat).size) = False := eq_false (Nat.not_lt.2 c23)
                              have H' := Aside0.mk H
                              clear H
                              go_wp2
                              go_roundg kj10
                              case measure => have := HK1.out; have := HJ10.out; omega
                              case rel => exact ⟨(x0_1 ++ (a1.extract (x10_1 : Int).toNat (x11_10 : Int).toNat)), (x11_10), (by first | rfl | (simp; done) | (simp [*]; done)), (by first | rfl | (simp; done) | (simp [*]; done)), H', ⟨by have := HK1.out; have := HJ10.out; omega⟩, by repeat (first | exact Drawn0.refl _ | apply Drawn0.step)⟩
                            · rw [if_neg c23] at H
                              exact absurd H (by simp)
                          · rw [if_neg c22] at H
                            exact absurd H (by simp)
                        · rw [if_neg c21] at H
                          exact absurd H (by simp)
                      · rw [if_neg c20] at H
                        exact absurd H (by simp)
                    · rw [if_neg c19] at H
                      have c19b0 : (x0_1.toList == ([] : List UInt8)) = false := beq_eq_false_iff_ne.mpr c19
                      have c19b1 : (x0_1.toList != ([] : List UInt8)) = true := bne_iff_ne.mpr c19
                      by_cases c24 : x0_1.size + 1 ≤ 9223372036854775807
                      · rw [if_pos c24] at H
                        have c24b0 := eq_true c24
                        have c24b1 : decide (x0_1.size + 1 ≤ 9223372036854775807) = true := decide_eq_true c24
                        try have c24b2 : (9223372036854775807 < x0_1.size + 1) = False := eq_false (Nat.not_lt.2 c24)
                        by_cases c25 : 0 ≤ x10_1
                        · rw [if_pos c25] at H
                          have c25b0 := eq_true c25
                          have c25b1 : decide (0 ≤ x10_1) = true := decide_eq_true c25
                          clear c25
                          by_cases c26 : x10_1 ≤ x11_10
                          · rw [if_pos c26] at H
                            have c26b0 := eq_true c26
                            have c26b1 : decide (x10_1 ≤ x11_10) = true := decide_eq_true c26
                            clear c26
                            by_cases c27 : x11_10 ≤ (a1.size : Int)
                            · rw [if_pos c27] at H
                              have c27b0 := eq_true c27
                              have c27b1 : decide (x11_10 ≤ (a1.size : Int)) = true := decide_eq_true c27
                              clear c27
                              by_cases c28 : (x0_1 ++ (⟨#[32]⟩ : ByteArray)).size + (a1.extract (x10_1 : Int).toNat (x11_10 : Int).toNat).size ≤ 9223372036854775807
                              · rw [if_pos c28] at H
                                have c28b0 := eq_true c28
                                have c28b1 : decide ((x0_1 ++ (⟨#[32]⟩ : ByteArray)).size + (a1.extract (x10_1 : Int).toNat (x11_10 : Int).toNat).size ≤ 9223372036854775807) = true := decide_eq_true c28
                                try have c28b2 : (9223372036854775807 < (x0_1 ++ (⟨#[32]⟩ : ByteArray)).size + (a1.extract (x10_1 : Int).toNat (x11_10 : Int).toNat).size) = False := eq_false (Nat.not_lt.2 c28)
                                have H' := Aside0.mk H
                                clear H
                                go_wp2
                                go_roundg kj10
                                case measure => have := HK1.out; have := HJ10.out; omega
                                case rel => exact ⟨((x0_1 ++ (⟨#[32]⟩ : ByteArray)) ++ (a1.extract (x10_1 : Int).toNat (x11_10 : Int).toNat)), (x11_10), (by first | rfl | (simp; done) | (simp [*]; done)), (by first | rfl | (simp; done) | (simp [*]; done)), H', ⟨by have := HK1.out; have := HJ10.out; omega⟩, by repeat (first | exact Drawn0.refl _ | apply Drawn0.step)⟩
                              · rw [if_neg c28] at H
                                exact absurd H (by simp)
                            · rw [if_neg c27] at H
                              exact absurd H (by simp)
                          · rw [if_neg c26] at H
                            exact absurd H (by simp)
                        · rw [if_neg c25] at H
                          exact absurd H (by simp)
                      · rw [if_neg c24] at H
                        exact absurd H (by simp)
          · rw [if_neg c7] at H
            exact absurd H (by simp)
        · rw [if_neg c6] at H
          exact absurd H (by simp)
      · rw [if_neg c5] at H
        have c5b0 : decide (x10_1 < a3) = false := decide_eq_false c5
        clear c5
        simp only [Option.some.injEq, Prod.mk.injEq] at H
        obtain ⟨rfl, rfl⟩ := H
        go_wp2
        go_ret2
        exact ⟨by first | rfl | (simp; done) | (simp [*]; done), by repeat (first | exact Drawn0.refl _ | apply Drawn0.step)⟩

end Go.Proofs.YtfeciafdioepiaaGreatDoor.PA
