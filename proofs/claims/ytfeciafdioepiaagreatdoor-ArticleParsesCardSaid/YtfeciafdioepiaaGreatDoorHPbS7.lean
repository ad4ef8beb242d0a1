/- Functions and contracts. -/
import Derived.Test.YtfeciafdioepiaaGreatDoorHPbS2
import Derived.Test.YtfeciafdioepiaaGreatDoorHPbS5
import Derived.Test.YtfeciafdioepiaaGreatDoorHPbS6
namespace Go.Proofs.YtfeciafdioepiaaGreatDoor.PA
open Go.RowKit Go.Proofs.YtfeciafdioepiaaGreatDoorW.PrintWords Go.Proofs.YtfeciafdioepiaaGreatDoorW.PrintLast Go.Proofs.YtfeciafdioepiaaGreatDoorW.PrintMore
attribute [local go_sem] max2_int min2_int max_two min_two max_three min_three max_four min_four   -- for this text's walks alone
set_option linter.unusedVariables false
set_option linter.unusedSimpArgs false

/-! ### bulletinref09_Parse: function 38 -/
mutual
def bulletinref09_Parse.l0 : Nat → ByteArray → List (S78) → Int → Option ((List (S78)) × Int × Int)
  | 0, _, _, _ => none
  | k + 1, x0, x5, x6 => if x6 < (x0.size : Int) then (bulletinref09_Parse.l1 k x0 x5 x6 x6) else (some (x5, 0, 0))
def bulletinref09_Parse.j2 : Nat → ByteArray → List (S78) → Int → Int → Option ((List (S78)) × Int × Int)
  | 0, _, _, _, _ => none
  | k + 1, x0, x5, x6, x7 => if x7 = (x0.size : Int) then (some (([] : List (S78)), (x0.size : Int), 4)) else (if (wrap64 (x7 - x6)) > 998 then (some (([] : List (S78)), wrap64 (x6 + 998), 5)) else (bulletinref09_Parse.l2 k x0 x5 x6 x7 (-1) x6))
def bulletinref09_Parse.l2 : Nat → ByteArray → List (S78) → Int → Int → Int → Int → Option ((List (S78)) × Int × Int)
  | 0, _, _, _, _, _, _ => none
  | k + 1, x0, x5, x6, x7, x8, x9 => if x9 < x7 then (if 0 ≤ x9 then (if x9 < (x0.size : Int) then ((bulletinref01_Visible.f (bt x0 x9)).bind fun t160 => (if t160 = true then (bulletinref09_Parse.j4 k x0 x5 x6 x7 x8 x9 false) else ((bulletinref01_Blank.f (bt x0 x9)).bind fun t161 => (bulletinref09_Parse.j4 k x0 x5 x6 x7 x8 x9 (!t161))))) else (none)) else (none)) else (if x6 < x7 then (if 0 ≤ x6 then (if x6 < (x0.size : Int) then ((bulletinref01_Blank.f (bt x0 x6)).bind fun t162 => (bulletinref09_Parse.j5 k x0 x5 x6 x7 x8 t162)) else (none)) else (none)) else (bulletinref09_Parse.j5 k x0 x5 x6 x7 x8 false))
def bulletinref09_Parse.j4 : Nat → ByteArray → List (S78) → Int → Int → Int → Int → Bool → Option ((List (S78)) × Int × Int)
  | 0, _, _, _, _, _, _, _ => none
  | k + 1, x0, x5, x6, x7, x8, x9, x63 => if x63 = true then (some (([] : List (S78)), x9, 6)) else (if 0 ≤ x9 then (if x9 < (x0.size : Int) then (if (bt x0 x9) = 58 then (if x8 < 0 then (bulletinref09_Parse.l2 k x0 x5 x6 x7 x9 (wrap64 (x9 + 1))) else (bulletinref09_Parse.l2 k x0 x5 x6 x7 x8 (wrap64 (x9 + 1)))) else (bulletinref09_Parse.l2 k x0 x5 x6 x7 x8 (wrap64 (x9 + 1)))) else (none)) else (none))
def bulletinref09_Parse.j5 : Nat → ByteArray → List (S78) → Int → Int → Int → Bool → Option ((List (S78)) × Int × Int)
  | 0, _, _, _, _, _, _ => none
  | k + 1, x0, x5, x6, x7, x8, x10 => if x10 = true then (if (x5.length : Int) = 0 then (bulletinref09_Parse.j6 k x0 x5 x6 x7 x8 x10 true) else (bulletinref09_Parse.j6 k x0 x5 x6 x7 x8 x10 false)) else (bulletinref09_Parse.j6 k x0 x5 x6 x7 x8 x10 (decide (x8 < 0)))
def bulletinref09_Parse.j6 : Nat → ByteArray → List (S78) → Int → Int → Int → Bool → Bool → Option ((List (S78)) × Int × Int)
  | 0, _, _, _, _, _, _, _ => none
  | k + 1, x0, x5, x6, x7, x8, x10, x96 => if x96 = true then (some (([] : List (S78)), x6, 3)) else (if x10 = true then (bulletinref09_Parse.j7 k x0 x5 x6 x7 x6) else (if 0 ≤ x6 then (if x6 ≤ x8 then (if x8 ≤ (x0.size : Int) then ((bulletinref09_ValidName.f k (x0.extract (x6 : Int).toNat (x8 : Int).toNat)).bind fun t163 => (if t163 = true then (if (x5.length : Int) = 64 then (some (([] : List (S78)), x6, 9)) else (if x5.length < 4398046511104 then (bulletinref09_Parse.j7 k x0 (x5 ++ [(⟨x0.extract (x6 : Int).toNat (x8 : Int).toNat, (⟨#[]⟩ : ByteArray)⟩ : S78)]) x6 x7 (wrap64 (x8 + 1))) else (none))) else (some (([] : List (S78)), x6, 12)))) else (none)) else (none)) else (none)))
def bulletinref09_Parse.j7 : Nat → ByteArray → List (S78) → Int → Int → Int → Option ((List (S78)) × Int × Int)
  | 0, _, _, _, _, _ => none
  | k + 1, x0, x5, x6, x7, x11 => if 0 ≤ (wrap64 ((x5.length : Int) - 1)) then (if (wrap64 ((x5.length : Int) - 1)) < (x5.length : Int) then ((bulletinref09_add.f k ((rd_T78 x5 (wrap64 ((x5.length : Int) - 1))).f1) x0 x11 x7).bind fun bt168 => (if bt168.2 ≥ 0 then (some (([] : List (S78)), bt168.2, 5)) else (if (bt168.1.size : Int) > 8192 then (some (([] : List (S78)), x6, 5)) else (bulletinref09_Parse.l0 k x0 (x5.set ((wrap64 ((x5.length : Int) - 1)) : Int).toNat (⟨(rd_T78 x5 (wrap64 ((x5.length : Int) - 1))).f0, bt168.1⟩ : S78)) (wrap64 (x7 + 1)))))) else (none)) else (none)
def bulletinref09_Parse.l1 : Nat → ByteArray → List (S78) → Int → Int → Option ((List (S78)) × Int × Int)
  | 0, _, _, _, _ => none
  | k + 1, x0, x5, x6, x7 => if x7 < (x0.size : Int) then (if 0 ≤ x7 then (if (bt x0 x7) = 10 then (bulletinref09_Parse.j2 k x0 x5 x6 x7) else (bulletinref09_Parse.l1 k x0 x5 x6 (wrap64 (x7 + 1)))) else (none)) else (bulletinref09_Parse.j2 k x0 x5 x6 x7)
end
def bulletinref09_Parse.f (k : Nat) (a0 : ByteArray) : Option ((List (S78)) × Int × Int) := if (a0.size : Int) > 65536 then (some (([] : List (S78)), 65536, 5)) else (bulletinref09_Parse.l0 k a0 ([] : List (S78)) 0)
set_option maxHeartbeats 8000000 in
set_option maxRecDepth 100000 in
theorem bulletinref09_Parse.calls (k : Nat) (a0 : ByteArray) (r1 : List (S78)) (r2 : Int) (r3 : Int) (w : World) (h : bulletinref09_Parse.f k a0 = some (r1, r2, r3)) :
    Calls Tryz.prog 38 #[.string a0] w fun e w' => ∃ v0_ : Value, e = .returned (.tuple #[v0_, .int .i64 r2, .int .i64 r3]) ∧ Kd.R k78 78 w' w.heap.size (fun _ => True) v0_ r1 ∧ Below w.heap.size w w' := by
  have hu78 := Tryz.underlying78
  have HB := Aside0.mk (Below.refl w.heap.size w)
  have H : (if (a0.size : Int) > 65536 then (some (([] : List (S78)), 65536, 5)) else (bulletinref09_Parse.l0 k a0 ([] : List (S78)) 0)) = some (r1, r2, r3) := h
  clear h
  by_cases c2 : (a0.size : Int) > 65536
  · rw [if_pos c2] at H
    have c2b0 : decide (65536 < (a0.size : Int)) = true := decide_eq_true c2
    have c2b1 : decide (65536 < a0.size) = true := decide_eq_true (by omega)
    clear c2
    simp only [Option.some.injEq, Prod.mk.injEq] at H
    obtain ⟨rfl, rfl, rfl⟩ := H
    go_enter Tryz.func38, Tryz.ntmps38
    go_wp2
    go_ret3
    exact ⟨_, by first | rfl | (simp [errW_none, errW_some] <;> rfl) | (simp [*, errW_none, errW_some] <;> rfl), by first | exact Kd.R_nil _ _ _ _ _ | exact Kd.N_nil _ _ _ _ _ | exact Kd.V_nil _ _ _ _ _ | exact Kd.Q_nil _ _ _ _ _ | exact Kd.S_nil _ _ _ _ _, by repeat (first | (with_reducible first | exact HB.out | apply below_alloc | apply pw_below_drewN | apply below_drew1) | exact HB.out)⟩
  · rw [if_neg c2] at H
    have c2b0 : decide (65536 < (a0.size : Int)) = false := decide_eq_false c2
    have c2b1 : decide (65536 < a0.size) = false := decide_eq_false (by omega)
    clear c2
    have H' := Aside0.mk H
    clear H
    go_enter Tryz.func38, Tryz.ntmps38
    go_wp2
    go_loopg [5, 6] k (fun kq v5 v6 w' => ∃ (x5_1 : List (S78)) (x6_1 : Int), v6 = .int .i64 x6_1 ∧ Aside0 (bulletinref09_Parse.l0 kq a0 x5_1 x6_1 = some (r1, r2, r3)) ∧ Aside0 (kq ≤ k) ∧ Aside0 (Kd.R k78 78 w' w.heap.size (fun _ => True) v5 x5_1) ∧ Aside0 (Below w.heap.size w w'))
    case atStart => exact ⟨(([] : List (S78))), (0), (by first | rfl | (simp; done) | (simp [*]; done)), H', ⟨Nat.le_refl _⟩, ⟨by first | exact Kd.R_nil _ _ _ _ _ | exact Kd.N_nil _ _ _ _ _ | exact Kd.V_nil _ _ _ _ _ | exact Kd.Q_nil _ _ _ _ _ | exact Kd.S_nil _ _ _ _ _⟩, ⟨by repeat (first | (with_reducible first | exact HB.out | apply below_alloc | apply pw_below_drewN | apply below_drew1) | exact HB.out)⟩⟩
    case round =>
      clear H'
      try clear c2
      try clear c2b0
      try clear c2b1
      try clear p2
      obtain ⟨x5_1, x6_1, rfl, HA, HK1, HO_5, HB⟩ := hrel
      cases gk with
      | zero => exact absurd HA.out (by simp [bulletinref09_Parse.l0])
      | succ k1 =>
        have H := HA.out
        clear HA
        simp only [bulletinref09_Parse.l0] at H
        by_cases c3 : x6_1 < (a0.size : Int)
        · rw [if_pos c3] at H
          have c3b0 : decide (x6_1 < (a0.size : Int)) = true := decide_eq_true c3
          clear c3
          have HC4 := Aside0.mk H
          clear H
          go_upto_block 2 with (fail)
          go_cut [7] (fun v7 wc => ∃ (kq : Nat) (x7_3 : Int), v7 = .int .i64 x7_3 ∧ Aside0 (bulletinref09_Parse.j2 kq a0 x5_1 x6_1 x7_3 = some (r1, r2, r3)) ∧ Aside0 (kq ≤ k1) ∧ Aside0 (Kd.R k78 78 wc w.heap.size (fun _ => True) u5 x5_1) ∧ Aside0 (Below w.heap.size w wc))
          case first =>
            have H := HC4.out
            clear HC4
            have H' := Aside0.mk H
            clear H
            go_wp2
            go_loopg [7] k1 (fun kq v7 w' => ∃ (x7_2 : Int), v7 = .int .i64 x7_2 ∧ Aside0 (bulletinref09_Parse.l1 kq a0 x5_1 x6_1 x7_2 = some (r1, r2, r3)) ∧ Aside0 (kq ≤ k1) ∧ Aside0 (Kd.R k78 78 w' w.heap.size (fun _ => True) u5 x5_1) ∧ Aside0 (Below w.heap.size w w'))
            case atStart => exact ⟨(x6_1), (by first | rfl | (simp; done) | (simp [*]; done)), H', ⟨Nat.le_refl _⟩, ⟨by (with_reducible repeat (first | apply Kd.R_alloc | apply Kd.R_drewN | apply Kd.R_drew)); exact HO_5.out⟩, ⟨by repeat (first | (with_reducible first | exact HB.out | apply below_alloc | apply pw_below_drewN | apply below_drew1) | exact HB.out)⟩⟩
            case round =>
              clear H'
              try clear c2
              try clear c2b0
              try clear c2b1
              try clear p2
              try clear c3
              try clear c3b0
              try clear p2
              obtain ⟨x7_2, rfl, HA, HK2, HO_5, HB⟩ := hrel
              cases gk with
              | zero => exact absurd HA.out (by simp [bulletinref09_Parse.l1])
              | succ k2 =>
                have H := HA.out
                clear HA
                simp only [bulletinref09_Parse.l1] at H
                by_cases c5 : x7_2 < (a0.size : Int)
                · rw [if_pos c5] at H
                  have c5b0 : decide (x7_2 < (a0.size : Int)) = true := decide_eq_true c5
                  clear c5
                  (first | rw [c5b0] | (simp only [i64_w, i32_w]; rw [c5b0]) | skip)
                  by_cases c6 : 0 ≤ x7_2
                  · rw [if_pos c6] at H
                    have c6b0 : decide (0 ≤ x7_2) = true := decide_eq_true c6
                    clear c6
                    by_cases c8 : (bt a0 x7_2) = 10
                    · rw [if_pos c8] at H
                      have c8b0 : ((bt a0 x7_2) == 10) = true := beq_iff_eq.mpr c8
                      have c8b1 : ((bt a0 x7_2) != 10) = false := bne_eq_false_iff_eq.mpr c8
                      clear c8
                      have H' := Aside0.mk H
                      clear H
                      have p7 : 0 ≤ (x7_2 : Int) := of_decide_eq_true (by first | (with_reducible assumption) | assumption)
                      have q7 : x7_2 < (a0.size : Int) := of_decide_eq_true (by first | (with_reducible assumption) | assumption)
                      have hx7 := bt_at a0 x7_2
                      replace p7 := eq_true p7
                      replace q7 := eq_true q7
                      go_wp2
                      go_meet
                      case rel => exact ⟨_, (x7_2), (by first | rfl | (simp; done) | (simp [*]; done)), H', ⟨by have := HK1.out; have := HK2.out; first | omega | exact Nat.le_refl _⟩, ⟨by (with_reducible repeat (first | apply Kd.R_alloc | apply Kd.R_drewN | apply Kd.R_drew)); exact HO_5.out⟩, ⟨by repeat (first | (with_reducible first | exact HB.out | apply below_alloc | apply pw_below_drewN | apply below_drew1) | exact HB.out)⟩⟩
                    · rw [if_neg c8] at H
                      have c8b0 : ((bt a0 x7_2) == 10) = false := beq_eq_false_iff_ne.mpr c8
                      have c8b1 : ((bt a0 x7_2) != 10) = true := bne_iff_ne.mpr c8
                      have H' := Aside0.mk H
                      clear H
                      have p7 : 0 ≤ (x7_2 : Int) := of_decide_eq_true (by first | (with_reducible assumption) | assumption)
                      have q7 : x7_2 < (a0.size : Int) := of_decide_eq_true (by first | (with_reducible assumption) | assumption)
                      have hx7 := bt_at a0 x7_2
                      replace p7 := eq_true p7
                      replace q7 := eq_true q7
                      go_wp2
                      go_roundg k2
                      case measure => have := HK1.out; have := HK2.out; omega
                      case rel => exact ⟨(wrap64 (x7_2 + 1)), (by first | rfl | (simp; done) | (simp [*]; done)), H', ⟨by have := HK1.out; have := HK2.out; omega⟩, ⟨by (with_reducible repeat (first | apply Kd.R_alloc | apply Kd.R_drewN | apply Kd.R_drew)); exact HO_5.out⟩, ⟨by repeat (first | (with_reducible first | exact HB.out | apply below_alloc | apply pw_below_drewN | apply below_drew1) | exact HB.out)⟩⟩
                  · rw [if_neg c6] at H
                    exact absurd H (by simp)
                · rw [if_neg c5] at H
                  have c5b0 : decide (x7_2 < (a0.size : Int)) = false := decide_eq_false c5
                  clear c5
                  (first | rw [c5b0] | (simp only [i64_w, i32_w]; rw [c5b0]) | skip)
                  have H' := Aside0.mk H
                  clear H
                  go_wp2
                  go_meet
                  case rel => exact ⟨_, (x7_2), (by first | rfl | (simp; done) | (simp [*]; done)), H', ⟨by have := HK1.out; have := HK2.out; first | omega | exact Nat.le_refl _⟩, ⟨by (with_reducible repeat (first | apply Kd.R_alloc | apply Kd.R_drewN | apply Kd.R_drew)); exact HO_5.out⟩, ⟨by repeat (first | (with_reducible first | exact HB.out | apply below_alloc | apply pw_below_drewN | apply below_drew1) | exact HB.out)⟩⟩
          case rest =>
            clear HC4
            try clear c2
            try clear c2b0
            try clear c2b1
            try clear p2
            try clear c3
            try clear c3b0
            try clear c5
            try clear c5b0
            try clear c6
            try clear c6b0
            try clear p6
            try clear p7
            try clear q7
            try clear hx7
            try clear c8
            try clear c8b0
            try clear c8b1
            try clear p2
            try clear p7
            try clear q7
            obtain ⟨kq, x7_3, rfl, HA, HJ3, HO_5, HB⟩ := hcut
            cases kq with
            | zero => exact absurd HA.out (by simp [bulletinref09_Parse.j2])
            | succ kj3 =>
              have H := HA.out
              clear HA
              simp only [bulletinref09_Parse.j2] at H
              by_cases c9 : x7_3 = (a0.size : Int)
              · rw [if_pos c9] at H
                have c9b0 : (x7_3 == (a0.size : Int)) = true := beq_iff_eq.mpr c9
                have c9b1 : (x7_3 != (a0.size : Int)) = false := bne_eq_false_iff_eq.mpr c9
                clear c9
                simp only [Option.some.injEq, Prod.mk.injEq] at H
                obtain ⟨rfl, rfl, rfl⟩ := H
                go_wp2
                go_ret3
                exact ⟨_, by first | rfl | (simp [errW_none, errW_some] <;> rfl) | (simp [*, errW_none, errW_some] <;> rfl), by first | exact Kd.R_nil _ _ _ _ _ | exact Kd.N_nil _ _ _ _ _ | exact Kd.V_nil _ _ _ _ _ | exact Kd.Q_nil _ _ _ _ _ | exact Kd.S_nil _ _ _ _ _, by repeat (first | (with_reducible first | exact HB.out | apply below_alloc | apply pw_below_drewN | apply below_drew1) | exact HB.out)⟩
              · rw [if_neg c9] at H
                have c9b0 : (x7_3 == (a0.size : Int)) = false := beq_eq_false_iff_ne.mpr c9
                have c9b1 : (x7_3 != (a0.size : Int)) = true := bne_iff_ne.mpr c9
                by_cases c10 : (wrap64 (x7_3 - x6_1)) > 998
                · rw [if_pos c10] at H
                  have c10b0 : decide (998 < (wrap64 (x7_3 - x6_1))) = true := decide_eq_true c10
                  clear c10
                  simp only [Option.some.injEq, Prod.mk.injEq] at H
                  obtain ⟨rfl, rfl, rfl⟩ := H
                  go_wp2
                  go_ret3
                  exact ⟨_, by first | rfl | (simp [errW_none, errW_some] <;> rfl) | (simp [*, errW_none, errW_some] <;> rfl), by first | exact Kd.R_nil _ _ _ _ _ | exact Kd.N_nil _ _ _ _ _ | exact Kd.V_nil _ _ _ _ _ | exact Kd.Q_nil _ _ _ _ _ | exact Kd.S_nil _ _ _ _ _, by repeat (first | (with_reducible first | exact HB.out | apply below_alloc | apply pw_below_drewN | apply below_drew1) | exact HB.out)⟩
                · rw [if_neg c10] at H
                  have c10b0 : decide (998 < (wrap64 (x7_3 - x6_1))) = false := decide_eq_false c10
                  clear c10
                  have H' := Aside0.mk H
                  clear H
                  go_wp2
                  go_loopg [8, 9] kj3 (fun kq v8 v9 w' => ∃ (x8_3 : Int) (x9_3 : Int), v8 = .int .i64 x8_3 ∧ v9 = .int .i64 x9_3 ∧ Aside0 (bulletinref09_Parse.l2 kq a0 x5_1 x6_1 x7_3 x8_3 x9_3 = some (r1, r2, r3)) ∧ Aside0 (kq ≤ kj3) ∧ Aside0 (Kd.R k78 78 w' w.heap.size (fun _ => True) u5 x5_1) ∧ Aside0 (Below w.heap.size w w'))
                  case atStart => exact ⟨((-1)), (x6_1), (by first | rfl | (simp; done) | (simp [*]; done)), (by first | rfl | (simp; done) | (simp [*]; done)), H', ⟨Nat.le_refl _⟩, ⟨by (with_reducible repeat (first | apply Kd.R_alloc | apply Kd.R_drewN | apply Kd.R_drew)); exact HO_5.out⟩, ⟨by repeat (first | (with_reducible first | exact HB.out | apply below_alloc | apply pw_below_drewN | apply below_drew1) | exact HB.out)⟩⟩
                  case round =>
                    clear H'
                    try clear c1
                    try clear c2
                    try clear c2b0
                    try clear c2b1
                    try clear p2
                    try clear c3
                    try clear c3b0
                    try clear c5
                    try clear c5b0
                    try clear c6
                    try clear c6b0
                    try clear p6
                    try clear p7
                    try clear q7
                    try clear hx7
                    try clear c8
                    try clear c8b0
                    try clear c8b1
                    try clear c9
                    try clear c9b0
                    try clear c9b1
                    try clear c10
                    try clear c10b0
                    try clear p2
                    try clear p6
                    try clear p7
                    try clear q7
                    obtain ⟨x8_3, x9_3, rfl, rfl, HA, HK3, HO_5, HB⟩ := hrel
                    cases gk with
                    | zero => exact absurd HA.out (by simp [bulletinref09_Parse.l2])
                    | succ k3 =>
                      have H := HA.out
                      clear HA
                      simp only [bulletinref09_Parse.l2] at H
                      by_cases c11 : x9_3 < x7_3
                      · rw [if_pos c11] at H
                        have c11b0 : decide (x9_3 < x7_3) = true := decide_eq_true c11
                        clear c11
                        have HC12 := Aside0.mk H
                        clear H
                        go_upto_region 17 with (fail)
                        go_cut [63] (fun v63 wc => ∃ (kq : Nat) (x63_11 : Bool), v63 = .bool x63_11 ∧ Aside0 (bulletinref09_Parse.j4 kq a0 x5_1 x6_1 x7_3 x8_3 x9_3 x63_11 = some (r1, r2, r3)) ∧ Aside0 (kq ≤ k3) ∧ Aside0 (Kd.R k78 78 wc w.heap.size (fun _ => True) u5 x5_1) ∧ Aside0 (Below w.heap.size w wc))
                        case first =>
                          have H := HC12.out
                          clear HC12
                          by_cases c13 : 0 ≤ x9_3
                          · rw [if_pos c13] at H
                            have c13b0 : decide (0 ≤ x9_3) = true := decide_eq_true c13
                            clear c13
                            (first | rw [c13b0] | (simp only [i64_w, i32_w]; rw [c13b0]) | skip)
                            by_cases c14 : x9_3 < (a0.size : Int)
                            · rw [if_pos c14] at H
                              have c14b0 : decide (x9_3 < (a0.size : Int)) = true := decide_eq_true c14
                              clear c14
                              replace H := Option.bind_eq_some_iff.mp H
                              obtain ⟨t160, A160, H⟩ := H
                              replace H : (if t160 = true then (bulletinref09_Parse.j4 k3 a0 x5_1 x6_1 x7_3 x8_3 x9_3 false) else ((bulletinref01_Blank.f (bt a0 x9_3)).bind fun t161 => (bulletinref09_Parse.j4 k3 a0 x5_1 x6_1 x7_3 x8_3 x9_3 (!t161)))) = some (r1, r2, r3) := H
                              have A16 := Aside0.mk A160
                              clear A160
                              by_cases c17 : t160 = true
                              · subst c17
                                have H1 : (bulletinref09_Parse.j4 k3 a0 x5_1 x6_1 x7_3 x8_3 x9_3 false) = some (r1, r2, r3) := by rw [if_pos rfl] at H; exact H
                                clear H
                                have H := H1
                                clear H1
                                have H' := Aside0.mk H
                                clear H
                                have p15 : 0 ≤ (x9_3 : Int) := of_decide_eq_true (by first | (with_reducible assumption) | assumption)
                                have q15 : x9_3 < (a0.size : Int) := of_decide_eq_true (by first | (with_reducible assumption) | assumption)
                                have hx15 := bt_at a0 x9_3
                                replace p15 := eq_true p15
                                replace q15 := eq_true q15
                                go_wp2_with (first | ((with_reducible refine gate_callee (f := 60) rfl ?_); refine goesL_ (some 55) rfl rfl Tryz.func60 (by kernel_rfl) rfl #[.int .u8 (bt a0 x9_3)] rfl (by (try simp only [List.map_toArray, List.map_cons, List.map_nil]); first | done | rfl | (simp only [List.length_drop, List.length_take]; rfl)) ?_; (with_reducible refine (bulletinref01_Visible.calls (bt a0 x9_3) true _ A16.out).mono ?_); rintro e w' ⟨rfl, ⟨nd, rfl⟩⟩; refine ⟨_, rfl, ?_⟩))
                                go_meet
                                case rel => exact ⟨_, (false), (by first | rfl | (simp; done) | (simp [*]; done)), H', ⟨by have := HK1.out; have := HJ3.out; have := HK3.out; first | omega | exact Nat.le_refl _⟩, ⟨by (with_reducible repeat (first | apply Kd.R_alloc | apply Kd.R_drewN | apply Kd.R_drew)); exact HO_5.out⟩, ⟨by repeat (first | (with_reducible first | exact HB.out | apply below_alloc | apply pw_below_drewN | apply below_drew1) | exact HB.out)⟩⟩
                              · replace c17 := Bool.eq_false_iff.mpr c17
                                subst c17
                                have H1 : ((bulletinref01_Blank.f (bt a0 x9_3)).bind fun t161 => (bulletinref09_Parse.j4 k3 a0 x5_1 x6_1 x7_3 x8_3 x9_3 (!t161))) = some (r1, r2, r3) := by rw [if_neg (show ¬ (false = true) by decide)] at H; exact H
                                clear H
                                have H := H1
                                clear H1
                                replace H := Option.bind_eq_some_iff.mp H
                                obtain ⟨t161, A190, H⟩ := H
                                replace H : (bulletinref09_Parse.j4 k3 a0 x5_1 x6_1 x7_3 x8_3 x9_3 (!t161)) = some (r1, r2, r3) := H
                                have A19 := Aside0.mk A190
                                clear A190
                                have H' := Aside0.mk H
                                clear H
                                have p15 : 0 ≤ (x9_3 : Int) := of_decide_eq_true (by first | (with_reducible assumption) | assumption)
                                have q15 : x9_3 < (a0.size : Int) := of_decide_eq_true (by first | (with_reducible assumption) | assumption)
                                have hx15 := bt_at a0 x9_3
                                replace p15 := eq_true p15
                                replace q15 := eq_true q15
                                go_wp2_with (first | ((with_reducible refine gate_callee (f := 60) rfl ?_); refine goesL_ (some 55) rfl rfl Tryz.func60 (by kernel_rfl) rfl #[.int .u8 (bt a0 x9_3)] rfl (by (try simp only [List.map_toArray, List.map_cons, List.map_nil]); first | done | rfl | (simp only [List.length_drop, List.length_take]; rfl)) ?_; (with_reducible refine (bulletinref01_Visible.calls (bt a0 x9_3) false _ A16.out).mono ?_); rintro e w' ⟨rfl, ⟨nd, rfl⟩⟩; refine ⟨_, rfl, ?_⟩; have p18 : 0 ≤ (x9_3 : Int) := of_decide_eq_true (by first | (with_reducible assumption) | assumption); have q18 : x9_3 < (a0.size : Int) := of_decide_eq_true (by first | (with_reducible assumption) | assumption); have hx18 := bt_at a0 x9_3; replace p18 := eq_true p18; replace q18 := eq_true q18) | (go_at_call 61; (with_reducible refine (bulletinref01_Blank.calls (bt a0 x9_3) t161 _ A19.out).mono ?_); rintro e w' ⟨rfl, ⟨nd, rfl⟩⟩))
                                go_meet
                                case rel => exact ⟨_, (!t161), (by first | rfl | (simp; done) | (simp [*]; done)), H', ⟨by have := HK1.out; have := HJ3.out; have := HK3.out; first | omega | exact Nat.le_refl _⟩, ⟨by (with_reducible repeat (first | apply Kd.R_alloc | apply Kd.R_drewN | apply Kd.R_drew)); exact HO_5.out⟩, ⟨by repeat (first | (with_reducible first | exact HB.out | apply below_alloc | apply pw_below_drewN | apply below_drew1) | exact HB.out)⟩⟩
                            · rw [if_neg c14] at H
                              exact absurd H (by simp)
                          · rw [if_neg c13] at H
                            exact absurd H (by simp)
                        case rest =>
                          clear HC12
                          try clear c1
                          try clear p1
                          try clear q1
                          try clear hx1
                          try clear c2
                          try clear c2b0
                          try clear c2b1
                          try clear p2
                          try clear c3
                          try clear c3b0
                          try clear c5
                          try clear c5b0
                          try clear c6
                          try clear c6b0
                          try clear p6
                          try clear p7
                          try clear q7
                          try clear hx7
                          try clear c8
                          try clear c8b0
                          try clear c8b1
                          try clear c9
                          try clear c9b0
                          try clear c9b1
                          try clear c10
                          try clear c10b0
                          try clear c11
                          try clear c11b0
                          try clear c13
                          try clear c13b0
                          try clear c14
                          try clear c14b0
                          try clear p15
                          try clear q15
                          try clear hx15
                          try clear c17
                          try clear p18
                          try clear q18
                          try clear hx18
                          try clear p15
                          try clear p18
                          try clear p2
                          try clear p6
                          try clear p7
                          try clear q15
                          try clear q18
                          try clear q7
                          obtain ⟨kq, x63_11, rfl, HA, HJ11, HO_5, HB⟩ := hcut
                          cases kq with
                          | zero => exact absurd HA.out (by simp [bulletinref09_Parse.j4])
                          | succ kj11 =>
                            have H := HA.out
                            clear HA
                            simp only [bulletinref09_Parse.j4] at H
                            by_cases c20 : x63_11 = true
                            · subst c20
                              have H1 : (some (([] : List (S78)), x9_3, 6)) = some (r1, r2, r3) := by rw [if_pos rfl] at H; exact H
                              clear H
                              have H := H1
                              clear H1
                              simp only [Option.some.injEq, Prod.mk.injEq] at H
                              obtain ⟨rfl, rfl, rfl⟩ := H
                              go_wp2
                              go_ret3
                              exact ⟨_, by first | rfl | (simp [errW_none, errW_some] <;> rfl) | (simp [*, errW_none, errW_some] <;> rfl), by first | exact Kd.R_nil _ _ _ _ _ | exact Kd.N_nil _ _ _ _ _ | exact Kd.V_nil _ _ _ _ _ | exact Kd.Q_nil _ _ _ _ _ | exact Kd.S_nil _ _ _ _ _, by repeat (first | (with_reducible first | exact HB.out | apply below_alloc | apply pw_below_drewN | apply below_drew1) | exact HB.out)⟩
                            · replace c20 := Bool.eq_false_iff.mpr c20
                              subst c20
                              have H1 : (if 0 ≤ x9_3 then (if x9_3 < (a0.size : Int) then (if (bt a0 x9_3) = 58 then (if x8_3 < 0 then (bulletinref09_Parse.l2 kj11 a0 x5_1 x6_1 x7_3 x9_3 (wrap64 (x9_3 + 1))) else (bulletinref09_Parse.l2 kj11 a0 x5_1 x6_1 x7_3 x8_3 (wrap64 (x9_3 + 1)))) else (bulletinref09_Parse.l2 kj11 a0 x5_1 x6_1 x7_3 x8_3 (wrap64 (x9_3 + 1)))) else (none)) else (none)) = some (r1, r2, r3) := by rw [if_neg (show ¬ (false = true) by decide)] at H; exact H
                              clear H
                              have H := H1
                              clear H1
                              by_cases c21 : 0 ≤ x9_3
                              · rw [if_pos c21] at H
                                have c21b0 : decide (0 ≤ x9_3) = true := decide_eq_true c21
                                clear c21
                                by_cases c22 : x9_3 < (a0.size : Int)
                                · rw [if_pos c22] at H
                                  have c22b0 : decide (x9_3 < (a0.size : Int)) = true := decide_eq_true c22
                                  clear c22
                                  by_cases c24 : (bt a0 x9_3) = 58
                                  · rw [if_pos c24] at H
                                    have c24b0 : ((bt a0 x9_3) == 58) = true := beq_iff_eq.mpr c24
                                    have c24b1 : ((bt a0 x9_3) != 58) = false := bne_eq_false_iff_eq.mpr c24
                                    clear c24
                                    by_cases c25 : x8_3 < 0
                                    · rw [if_pos c25] at H
                                      have c25b0 : decide (x8_3 < 0) = true := decide_eq_true c25
                                      clear c25
                                      have H' := Aside0.mk H
                                      clear H
                                      have p23 : 0 ≤ (x9_3 : Int) := of_decide_eq_true (by first | (with_reducible assumption) | assumption)
                                      have q23 : x9_3 < (a0.size : Int) := of_decide_eq_true (by first | (with_reducible assumption) | assumption)
                                      have hx23 := bt_at a0 x9_3
                                      replace p23 := eq_true p23
                                      replace q23 := eq_true q23
                                      go_wp2
                                      go_roundg kj11
                                      case measure => have := HK1.out; have := HJ3.out; have := HK3.out; have := HJ11.out; omega
                                      case rel => exact ⟨(x9_3), (wrap64 (x9_3 + 1)), (by first | rfl | (simp; done) | (simp [*]; done)), (by first | rfl | (simp; done) | (simp [*]; done)), H', ⟨by have := HK1.out; have := HJ3.out; have := HK3.out; have := HJ11.out; omega⟩, ⟨by (with_reducible repeat (first | apply Kd.R_alloc | apply Kd.R_drewN | apply Kd.R_drew)); exact HO_5.out⟩, ⟨by repeat (first | (with_reducible first | exact HB.out | apply below_alloc | apply pw_below_drewN | apply below_drew1) | exact HB.out)⟩⟩
                                    · rw [if_neg c25] at H
                                      have c25b0 : decide (x8_3 < 0) = false := decide_eq_false c25
                                      clear c25
                                      have H' := Aside0.mk H
                                      clear H
                                      have p23 : 0 ≤ (x9_3 : Int) := of_decide_eq_true (by first | (with_reducible assumption) | assumption)
                                      have q23 : x9_3 < (a0.size : Int) := of_decide_eq_true (by first | (with_reducible assumption) | assumption)
                                      have hx23 := bt_at a0 x9_3
                                      replace p23 := eq_true p23
                                      replace q23 := eq_true q23
                                      go_wp2
                                      go_roundg kj11
                                      case measure => have := HK1.out; have := HJ3.out; have := HK3.out; have := HJ11.out; omega
                                      case rel => exact ⟨(x8_3), (wrap64 (x9_3 + 1)), (by first | rfl | (simp; done) | (simp [*]; done)), (by first | rfl | (simp; done) | (simp [*]; done)), H', ⟨by have := HK1.out; have := HJ3.out; have := HK3.out; have := HJ11.out; omega⟩, ⟨by (with_reducible repeat (first | apply Kd.R_alloc | apply Kd.R_drewN | apply Kd.R_drew)); exact HO_5.out⟩, ⟨by repeat (first | (with_reducible first | exact HB.out | apply below_alloc | apply pw_below_drewN | apply below_drew1) | exact HB.out)⟩⟩
                                  · rw [if_neg c24] at H
                                    have c24b0 : ((bt a0 x9_3) == 58) = false := beq_eq_false_iff_ne.mpr c24
                                    have c24b1 : ((bt a0 x9_3) != 58) = true := bne_iff_ne.mpr c24
                                    have H' := Aside0.mk H
                                    clear H
                                    have p23 : 0 ≤ (x9_3 : Int) := of_decide_eq_true (by first | (with_reducible assumption) | assumption)
                                    have q23 : x9_3 < (a0.size : Int) := of_decide_eq_true (by first | (with_reducible assumption) | assumption)
                                    have hx23 := bt_at a0 x9_3
                                    replace p23 := eq_true p23
                                    replace q23 := eq_true q23
                                    go_wp2
                                    go_roundg kj11
                                    case measure => have := HK1.out; have := HJ3.out; have := HK3.out; have := HJ11.out; omega
                                    case rel => exact ⟨(x8_3), (wrap64 (x9_3 + 1)), (by first | rfl | (simp; done) | (simp [*]; done)), (by first | rfl | (simp; done) | (simp [*]; done)), H', ⟨by have := HK1.out; have := HJ3.out; have := HK3.out; have := HJ11.out; omega⟩, ⟨by (with_reducible repeat (first | apply Kd.R_alloc | apply Kd.R_drewN | apply Kd.R_drew)); exact HO_5.out⟩, ⟨by repeat (first | (with_reducible first | exact HB.out | apply below_alloc | apply pw_below_drewN | apply below_drew1) | exact HB.out)⟩⟩
                                · rw [if_neg c22] at H
                                  exact absurd H (by simp)
                              · rw [if_neg c21] at H
                                exact absurd H (by simp)
                      · rw [if_neg c11] at H
                        have c11b0 : decide (x9_3 < x7_3) = false := decide_eq_false c11
                        clear c11
                        have HC26 := Aside0.mk H
                        clear H
                        go_upto_region 21 with (fail)
                        go_cut [10] (fun v10 wc => ∃ (kq : Nat) (x10_25 : Bool), v10 = .bool x10_25 ∧ Aside0 (bulletinref09_Parse.j5 kq a0 x5_1 x6_1 x7_3 x8_3 x10_25 = some (r1, r2, r3)) ∧ Aside0 (kq ≤ k3) ∧ Aside0 (Kd.R k78 78 wc w.heap.size (fun _ => True) u5 x5_1) ∧ Aside0 (Below w.heap.size w wc))
                        case first =>
                          have H := HC26.out
                          clear HC26
                          by_cases c27 : x6_1 < x7_3
                          · rw [if_pos c27] at H
                            have c27b0 : decide (x6_1 < x7_3) = true := decide_eq_true c27
                            clear c27
                            (first | rw [c27b0] | (simp only [i64_w, i32_w]; rw [c27b0]) | skip)
                            by_cases c28 : 0 ≤ x6_1
                            · rw [if_pos c28] at H
                              have c28b0 : decide (0 ≤ x6_1) = true := decide_eq_true c28
                              clear c28
                              by_cases c29 : x6_1 < (a0.size : Int)
                              · rw [if_pos c29] at H
                                have c29b0 : decide (x6_1 < (a0.size : Int)) = true := decide_eq_true c29
                                clear c29
                                replace H := Option.bind_eq_some_iff.mp H
                                obtain ⟨t162, A310, H⟩ := H
                                replace H : (bulletinref09_Parse.j5 k3 a0 x5_1 x6_1 x7_3 x8_3 t162) = some (r1, r2, r3) := H
                                have A31 := Aside0.mk A310
                                clear A310
                                have H' := Aside0.mk H
                                clear H
                                have p30 : 0 ≤ (x6_1 : Int) := of_decide_eq_true (by first | (with_reducible assumption) | assumption)
                                have q30 : x6_1 < (a0.size : Int) := of_decide_eq_true (by first | (with_reducible assumption) | assumption)
                                have hx30 := bt_at a0 x6_1
                                replace p30 := eq_true p30
                                replace q30 := eq_true q30
                                go_wp2_with (first | (go_at_call 61; (with_reducible refine (bulletinref01_Blank.calls (bt a0 x6_1) t162 _ A31.out).mono ?_); rintro e w' ⟨rfl, ⟨nd, rfl⟩⟩))
                                go_meet
                                case rel => exact ⟨_, (t162), (by first | rfl | (simp; done) | (simp [*]; done)), H', ⟨by have := HK1.out; have := HJ3.out; have := HK3.out; first | omega | exact Nat.le_refl _⟩, ⟨by (with_reducible repeat (first | apply Kd.R_alloc | apply Kd.R_drewN | apply Kd.R_drew)); exact HO_5.out⟩, ⟨by repeat (first | (with_reducible first | exact HB.out | apply below_alloc | apply pw_below_drewN | apply below_drew1) | exact HB.out)⟩⟩
                              · rw [if_neg c29] at H
                                exact absurd H (by simp)
                            · rw [if_neg c28] at H
                              exact absurd H (by simp)
                          · rw [if_neg c27] at H
                            have c27b0 : decide (x6_1 < x7_3) = false := decide_eq_false c27
                            clear c27
                            (first | rw [c27b0] | (simp only [i64_w, i32_w]; rw [c27b0]) | skip)
                            have H' := Aside0.mk H
                            clear H
                            go_wp2
                            go_meet
                            case rel => exact ⟨_, (false), (by first | rfl | (simp; done) | (simp [*]; done)), H', ⟨by have := HK1.out; have := HJ3.out; have := HK3.out; first | omega | exact Nat.le_refl _⟩, ⟨by (with_reducible repeat (first | apply Kd.R_alloc | apply Kd.R_drewN | apply Kd.R_drew)); exact HO_5.out⟩, ⟨by repeat (first | (with_reducible first | exact HB.out | apply below_alloc | apply pw_below_drewN | apply below_drew1) | exact HB.out)⟩⟩
                        case rest =>
                          clear HC26
                          try clear c1
                          try clear p1
                          try clear q1
                          try clear hx1
                          try clear c2
                          try clear c2b0
                          try clear c2b1
                          try clear p2
                          try clear q2
                          try clear hx2
                          try clear c3
                          try clear c3b0
                          try clear p3
                          try clear q3
                          try clear hx3
                          try clear c5
                          try clear c5b0
                          try clear c6
                          try clear c6b0
                          try clear p6
                          try clear p7
                          try clear q7
                          try clear hx7
                          try clear c8
                          try clear c8b0
                          try clear c8b1
                          try clear c9
                          try clear c9b0
                          try clear c9b1
                          try clear c10
                          try clear c10b0
                          try clear c11
                          try clear c11b0
                          try clear c13
                          try clear c13b0
                          try clear c14
                          try clear c14b0
                          try clear p15
                          try clear q15
                          try clear hx15
                          try clear c17
                          try clear p18
                          try clear q18
                          try clear hx18
                          try clear c20
                          try clear c21
                          try clear c21b0
                          try clear c22
                          try clear c22b0
                          try clear p23
                          try clear q23
                          try clear hx23
                          try clear c24
                          try clear c24b0
                          try clear c24b1
                          try clear c25
                          try clear c25b0
                          try clear c27
                          try clear c27b0
                          try clear c28
                          try clear c28b0
                          try clear c29
                          try clear c29b0
                          try clear p30
                          try clear q30
                          try clear hx30
                          try clear p1
                          try clear p15
                          try clear p18
                          try clear p2
                          try clear p23
                          try clear p30
                          try clear p6
                          try clear p7
                          try clear q1
                          try clear q15
                          try clear q18
                          try clear q23
                          try clear q30
                          try clear q7
                          obtain ⟨kq, x10_25, rfl, HA, HJ25, HO_5, HB⟩ := hcut
                          cases kq with
                          | zero => exact absurd HA.out (by simp [bulletinref09_Parse.j5])
                          | succ kj25 =>
                            have H := HA.out
                            clear HA
                            simp only [bulletinref09_Parse.j5] at H
                            have HC32 := Aside0.mk H
                            clear H
                            go_upto_region 22 with (fail)
                            go_cut [96] (fun v96 wc => ∃ (kq : Nat) (x96_31 : Bool), v96 = .bool x96_31 ∧ Aside0 (bulletinref09_Parse.j6 kq a0 x5_1 x6_1 x7_3 x8_3 x10_25 x96_31 = some (r1, r2, r3)) ∧ Aside0 (kq ≤ kj25) ∧ Aside0 (Kd.R k78 78 wc w.heap.size (fun _ => True) u5 x5_1) ∧ Aside0 (Below w.heap.size w wc))
                            case first =>
                              have H := HC32.out
                              clear HC32
                              by_cases c33 : x10_25 = true
                              · subst c33
                                have H1 : (if (x5_1.length : Int) = 0 then (bulletinref09_Parse.j6 kj25 a0 x5_1 x6_1 x7_3 x8_3 true true) else (bulletinref09_Parse.j6 kj25 a0 x5_1 x6_1 x7_3 x8_3 true false)) = some (r1, r2, r3) := by rw [if_pos rfl] at H; exact H
                                clear H
                                have H := H1
                                clear H1
                                by_cases c34 : (x5_1.length : Int) = 0
                                · rw [if_pos c34] at H
                                  have c34b0 : ((x5_1.length : Int) == 0) = true := beq_iff_eq.mpr c34
                                  have c34b1 : ((x5_1.length : Int) != 0) = false := bne_eq_false_iff_eq.mpr c34
                                  clear c34
                                  (first | rw [c34b0] | (simp only [i64_w, i32_w]; rw [c34b0]) | skip)
                                  have H' := Aside0.mk H
                                  clear H
                                  obtain ⟨Ao35, co35, eo35⟩ := Kd.R_slice HO_5.out
                                  subst eo35
                                  go_wp2
                                  go_meet
                                  case rel => exact ⟨_, (true), (by first | rfl | (simp; done) | (simp [*]; done)), H', ⟨by have := HK1.out; have := HJ3.out; have := HK3.out; have := HJ25.out; first | omega | exact Nat.le_refl _⟩, ⟨by (with_reducible repeat (first | apply Kd.R_alloc | apply Kd.R_drewN | apply Kd.R_drew)); exact HO_5.out⟩, ⟨by repeat (first | (with_reducible first | exact HB.out | apply below_alloc | apply pw_below_drewN | apply below_drew1) | exact HB.out)⟩⟩
                                · rw [if_neg c34] at H
                                  have c34b0 : ((x5_1.length : Int) == 0) = false := beq_eq_false_iff_ne.mpr c34
                                  have c34b1 : ((x5_1.length : Int) != 0) = true := bne_iff_ne.mpr c34
                                  have c34b2 : ¬ (x5_1 = []) := fun h_ => c34 (by rw [h_]; rfl)
                                  (first | rw [c34b0] | (simp only [i64_w, i32_w]; rw [c34b0]) | skip)
                                  have H' := Aside0.mk H
                                  clear H
                                  obtain ⟨Ao36, co36, eo36⟩ := Kd.R_slice HO_5.out
                                  subst eo36
                                  go_wp2
                                  go_meet
                                  case rel => exact ⟨_, (false), (by first | rfl | (simp; done) | (simp [*]; done)), H', ⟨by have := HK1.out; have := HJ3.out; have := HK3.out; have := HJ25.out; first | omega | exact Nat.le_refl _⟩, ⟨by (with_reducible repeat (first | apply Kd.R_alloc | apply Kd.R_drewN | apply Kd.R_drew)); exact HO_5.out⟩, ⟨by repeat (first | (with_reducible first | exact HB.out | apply below_alloc | apply pw_below_drewN | apply below_drew1) | exact HB.out)⟩⟩
                              · replace c33 := Bool.eq_false_iff.mpr c33
                                subst c33
                                have H1 : (bulletinref09_Parse.j6 kj25 a0 x5_1 x6_1 x7_3 x8_3 false (decide (x8_3 < 0))) = some (r1, r2, r3) := by rw [if_neg (show ¬ (false = true) by decide)] at H; exact H
                                clear H
                                have H := H1
                                clear H1
                                have H' := Aside0.mk H
                                clear H
                                go_wp2
                                go_meet
                                case rel => exact ⟨_, (decide (x8_3 < 0)), (by first | rfl | (simp; done) | (simp [*]; done)), H', ⟨by have := HK1.out; have := HJ3.out; have := HK3.out; have := HJ25.out; first | omega | exact Nat.le_refl _⟩, ⟨by (with_reducible repeat (first | apply Kd.R_alloc | apply Kd.R_drewN | apply Kd.R_drew)); exact HO_5.out⟩, ⟨by repeat (first | (with_reducible first | exact HB.out | apply below_alloc | apply pw_below_drewN | apply below_drew1) | exact HB.out)⟩⟩
                            case rest =>
                              clear HC32
                              try clear c1
                              try clear p1
                              try clear q1
                              try clear hx1
                              try clear c2
                              try clear c2b0
                              try clear c2b1
                              try clear p2
                              try clear q2
                              try clear hx2
                              try clear c3
                              try clear c3b0
                              try clear p3
                              try clear q3
                              try clear hx3
                              try clear c5
                              try clear c5b0
                              try clear c6
                              try clear c6b0
                              try clear p6
                              try clear p7
                              try clear q7
                              try clear hx7
                              try clear c8
                              try clear c8b0
                              try clear c8b1
                              try clear c9
                              try clear c9b0
                              try clear c9b1
                              try clear c10
                              try clear c10b0
                              try clear c11
                              try clear c11b0
                              try clear c13
                              try clear c13b0
                              try clear c14
                              try clear c14b0
                              try clear p15
                              try clear q15
                              try clear hx15
                              try clear c17
                              try clear p18
                              try clear q18
                              try clear hx18
                              try clear c20
                              try clear c21
                              try clear c21b0
                              try clear c22
                              try clear c22b0
                              try clear p23
                              try clear q23
                              try clear hx23
                              try clear c24
                              try clear c24b0
                              try clear c24b1
                              try clear c25
                              try clear c25b0
                              try clear c27
                              try clear c27b0
                              try clear c28
                              try clear c28b0
                              try clear c29
                              try clear c29b0
                              try clear p30
                              try clear q30
                              try clear hx30
                              try clear c33
                              try clear c34
                              try clear c34b0
                              try clear c34b1
                              try clear c34b2
                              try clear p1
                              try clear p15
                              try clear p18
                              try clear p2
                              try clear p23
                              try clear p3
                              try clear p30
                              try clear p6
                              try clear p7
                              try clear q1
                              try clear q15
                              try clear q18
                              try clear q2
                              try clear q23
                              try clear q3
                              try clear q30
                              try clear q7
                              obtain ⟨kq, x96_31, rfl, HA, HJ31, HO_5, HB⟩ := hcut
                              cases kq with
                              | zero => exact absurd HA.out (by simp [bulletinref09_Parse.j6])
                              | succ kj31 =>
                                have H := HA.out
                                clear HA
                                simp only [bulletinref09_Parse.j6] at H
                                by_cases c37 : x96_31 = true
                                · subst c37
                                  have H1 : (some (([] : List (S78)), x6_1, 3)) = some (r1, r2, r3) := by rw [if_pos rfl] at H; exact H
                                  clear H
                                  have H := H1
                                  clear H1
                                  simp only [Option.some.injEq, Prod.mk.injEq] at H
                                  obtain ⟨rfl, rfl, rfl⟩ := H
                                  go_wp2
                                  go_ret3
                                  exact ⟨_, by first | rfl | (simp [errW_none, errW_some] <;> rfl) | (simp [*, errW_none, errW_some] <;> rfl), by first | exact Kd.R_nil _ _ _ _ _ | exact Kd.N_nil _ _ _ _ _ | exact Kd.V_nil _ _ _ _ _ | exact Kd.Q_nil _ _ _ _ _ | exact Kd.S_nil _ _ _ _ _, by repeat (first | (with_reducible first | exact HB.out | apply below_alloc | apply pw_below_drewN | apply below_drew1) | exact HB.out)⟩
                                · replace c37 := Bool.eq_false_iff.mpr c37
                                  subst c37
                                  have H1 : (if x10_25 = true then (bulletinref09_Parse.j7 kj31 a0 x5_1 x6_1 x7_3 x6_1) else (if 0 ≤ x6_1 then (if x6_1 ≤ x8_3 then (if x8_3 ≤ (a0.size : Int) then ((bulletinref09_ValidName.f kj31 (a0.extract (x6_1 : Int).toNat (x8_3 : Int).toNat)).bind fun t163 => (if t163 = true then (if (x5_1.length : Int) = 64 then (some (([] : List (S78)), x6_1, 9)) else (if x5_1.length < 4398046511104 then (bulletinref09_Parse.j7 kj31 a0 (x5_1 ++ [(⟨a0.extract (x6_1 : Int).toNat (x8_3 : Int).toNat, (⟨#[]⟩ : ByteArray)⟩ : S78)]) x6_1 x7_3 (wrap64 (x8_3 + 1))) else (none))) else (some (([] : List (S78)), x6_1, 12)))) else (none)) else (none)) else (none))) = some (r1, r2, r3) := by rw [if_neg (show ¬ (false = true) by decide)] at H; exact H
                                  clear H
                                  have H := H1
                                  clear H1
                                  have HC38 := Aside0.mk H
                                  clear H
                                  go_upto_if 100 with (fail)
                                  go_cut [5, 11] (fun v5 v11 wc => ∃ (kq : Nat) (x5_37 : List (S78)) (x11_37 : Int), v11 = .int .i64 x11_37 ∧ Aside0 (bulletinref09_Parse.j7 kq a0 x5_37 x6_1 x7_3 x11_37 = some (r1, r2, r3)) ∧ Aside0 (kq ≤ kj31) ∧ Aside0 (Kd.R k78 78 wc w.heap.size (fun _ => True) v5 x5_37) ∧ Aside0 (Below w.heap.size w wc))
                                  case first =>
                                    have H := HC38.out
                                    clear HC38
                                    by_cases c39 : x10_25 = true
                                    · subst c39
                                      have H1 : (bulletinref09_Parse.j7 kj31 a0 x5_1 x6_1 x7_3 x6_1) = some (r1, r2, r3) := by rw [if_pos rfl] at H; exact H
                                      clear H
                                      have H := H1
                                      clear H1
                                      have H' := Aside0.mk H
                                      clear H
                                      go_wp2
                                      go_meet
                                      case rel => exact ⟨_, (x5_1), (x6_1), (by first | rfl | (simp; done) | (simp [*]; done)), H', ⟨by have := HK1.out; have := HJ3.out; have := HK3.out; have := HJ25.out; have := HJ31.out; first | omega | exact Nat.le_refl _⟩, ⟨by (with_reducible repeat (first | apply Kd.R_alloc | apply Kd.R_drewN | apply Kd.R_drew)); exact HO_5.out⟩, ⟨by repeat (first | (with_reducible first | exact HB.out | apply below_alloc | apply pw_below_drewN | apply below_drew1) | exact HB.out)⟩⟩
                                    · replace c39 := Bool.eq_false_iff.mpr c39
                                      subst c39
                                      have H1 : (if 0 ≤ x6_1 then (if x6_1 ≤ x8_3 then (if x8_3 ≤ (a0.size : Int) then ((bulletinref09_ValidName.f kj31 (a0.extract (x6_1 : Int).toNat (x8_3 : Int).toNat)).bind fun t163 => (if t163 = true then (if (x5_1.length : Int) = 64 then (some (([] : List (S78)), x6_1, 9)) else (if x5_1.length < 4398046511104 then (bulletinref09_Parse.j7 kj31 a0 (x5_1 ++ [(⟨a0.extract (x6_1 : Int).toNat (x8_3 : Int).toNat, (⟨#[]⟩ : ByteArray)⟩ : S78)]) x6_1 x7_3 (wrap64 (x8_3 + 1))) else (none))) else (some (([] : List (S78)), x6_1, 12)))) else (none)) else (none)) else (none)) = some (r1, r2, r3) := by rw [if_neg (show ¬ (false = true) by decide)] at H; exact H
                                      clear H
                                      have H := H1
                                      clear H1
                                      by_cases c40 : 0 ≤ x6_1
                                      · rw [if_pos c40] at H
                                        have c40b0 := eq_true c40
                                        have c40b1 : decide (0 ≤ x6_1) = true := decide_eq_true c40
                                        clear c40
                                        by_cases c41 : x6_1 ≤ x8_3
                                        · rw [if_pos c41] at H
                                          have c41b0 := eq_true c41
                                          have c41b1 : decide (x6_1 ≤ x8_3) = true := decide_eq_true c41
                                          clear c41
                                          by_cases c42 : x8_3 ≤ (a0.size : Int)
                                          · rw [if_pos c42] at H
                                            have c42b0 := eq_true c42
                                            have c42b1 : decide (x8_3 ≤ (a0.size : Int)) = true := decide_eq_true c42
                                            clear c42
                                            replace H := Option.bind_eq_some_iff.mp H
                                            obtain ⟨t163, A430, H⟩ := H
                                            replace H : (if t163 = true then (if (x5_1.length : Int) = 64 then (some (([] : List (S78)), x6_1, 9)) else (if x5_1.length < 4398046511104 then (bulletinref09_Parse.j7 kj31 a0 (x5_1 ++ [(⟨a0.extract (x6_1 : Int).toNat (x8_3 : Int).toNat, (⟨#[]⟩ : ByteArray)⟩ : S78)]) x6_1 x7_3 (wrap64 (x8_3 + 1))) else (none))) else (some (([] : List (S78)), x6_1, 12))) = some (r1, r2, r3) := H
                                            have A43 := Aside0.mk A430
                                            clear A430
                                            by_cases c44 : t163 = true
                                            · subst c44
                                              have H1 : (if (x5_1.length : Int) = 64 then (some (([] : List (S78)), x6_1, 9)) else (if x5_1.length < 4398046511104 then (bulletinref09_Parse.j7 kj31 a0 (x5_1 ++ [(⟨a0.extract (x6_1 : Int).toNat (x8_3 : Int).toNat, (⟨#[]⟩ : ByteArray)⟩ : S78)]) x6_1 x7_3 (wrap64 (x8_3 + 1))) else (none))) = some (r1, r2, r3) := by rw [if_pos rfl] at H; exact H
                                              clear H
                                              have H := H1
                                              clear H1
                                              by_cases c45 : (x5_1.length : Int) = 64
                                              · rw [if_pos c45] at H
                                                have c45b0 : ((x5_1.length : Int) == 64) = true := beq_iff_eq.mpr c45
                                                have c45b1 : ((x5_1.length : Int) != 64) = false := bne_eq_false_iff_eq.mpr c45
                                                clear c45
                                                (first | rw [c45b0] | (simp only [i64_w, i32_w]; rw [c45b0]) | skip)
                                                simp only [Option.some.injEq, Prod.mk.injEq] at H
                                                obtain ⟨rfl, rfl, rfl⟩ := H
                                                go_wp2_with (first | ((with_reducible refine gate_callee (f := 62) rfl ?_); refine goesL_ (some 105) rfl rfl Tryz.func62 (by kernel_rfl) rfl #[.string (a0.extract (x6_1 : Int).toNat (x8_3 : Int).toNat)] rfl (by (try simp only [List.map_toArray, List.map_cons, List.map_nil]); first | done | rfl | (simp only [List.length_drop, List.length_take]; rfl)) ?_; (with_reducible refine (bulletinref09_ValidName.calls kj31 (a0.extract (x6_1 : Int).toNat (x8_3 : Int).toNat) true _ A43.out).mono ?_); rintro e w' ⟨rfl, ⟨nd, rfl⟩⟩; refine ⟨_, rfl, ?_⟩; obtain ⟨Ao46, co46, eo46⟩ := Kd.R_slice HO_5.out; subst eo46))
                                                go_ret3
                                                exact ⟨_, by first | rfl | (simp [errW_none, errW_some] <;> rfl) | (simp [*, errW_none, errW_some] <;> rfl), by first | exact Kd.R_nil _ _ _ _ _ | exact Kd.N_nil _ _ _ _ _ | exact Kd.V_nil _ _ _ _ _ | exact Kd.Q_nil _ _ _ _ _ | exact Kd.S_nil _ _ _ _ _, by repeat (first | (with_reducible first | exact HB.out | apply below_alloc | apply pw_below_drewN | apply below_drew1) | exact HB.out)⟩
                                              · rw [if_neg c45] at H
                                                have c45b0 : ((x5_1.length : Int) == 64) = false := beq_eq_false_iff_ne.mpr c45
                                                have c45b1 : ((x5_1.length : Int) != 64) = true := bne_iff_ne.mpr c45
                                                (first | rw [c45b0] | (simp only [i64_w, i32_w]; rw [c45b0]) | skip)
                                                have c47b0 := eq_true (of_decide_eq_true (by first | (with_reducible assumption) | assumption) : 0 ≤ x6_1)
                                                have c48b0 := eq_true (of_decide_eq_true (by first | (with_reducible assumption) | assumption) : x6_1 ≤ x8_3)
                                                have c49b0 := eq_true (of_decide_eq_true (by first | (with_reducible assumption) | assumption) : x8_3 ≤ (a0.size : Int))
                                                by_cases c50 : x5_1.length < 4398046511104
                                                · rw [if_pos c50] at H
                                                  have LMc50 := Aside0.mk c50
                                                  clear c50
                                                  obtain ⟨y164, hy164⟩ : ∃ y_ : List (S78), y_ = (x5_1 ++ [(⟨a0.extract (x6_1 : Int).toNat (x8_3 : Int).toNat, (⟨#[]⟩ : ByteArray)⟩ : S78)]) := ⟨_, rfl⟩
                                                  replace H : (bulletinref09_Parse.j7 kj31 a0 y164 x6_1 x7_3 (wrap64 (x8_3 + 1))) = some (r1, r2, r3) := by first | (rw [hy164]; with_reducible exact H) | (have H2_ := (Option.bind_some _ _).symm.trans H; rw [hy164]; with_reducible exact H2_) | (have H2_ := (Option.bind_some _ _).symm.trans H; with_reducible exact H2_) | with_reducible exact H | (rw [hy164]; exact H) | exact H
                                                  have Ny164 := Aside0.mk hy164
                                                  clear hy164
                                                  have H' := Aside0.mk H
                                                  clear H
                                                  go_wp2_with (first | ((with_reducible refine gate_callee (f := 62) rfl ?_); refine goesL_ (some 105) rfl rfl Tryz.func62 (by kernel_rfl) rfl #[.string (a0.extract (x6_1 : Int).toNat (x8_3 : Int).toNat)] rfl (by (try simp only [List.map_toArray, List.map_cons, List.map_nil]); first | done | rfl | (simp only [List.length_drop, List.length_take]; rfl)) ?_; (with_reducible refine (bulletinref09_ValidName.calls kj31 (a0.extract (x6_1 : Int).toNat (x8_3 : Int).toNat) true _ A43.out).mono ?_); rintro e w' ⟨rfl, ⟨nd, rfl⟩⟩; refine ⟨_, rfl, ?_⟩; obtain ⟨Ao51, co51, eo51⟩ := Kd.R_slice HO_5.out; subst eo51) | ((with_reducible refine gate_builtin (b := .append) (xs := #[.tmp 112, .tmp 118]) rfl ?_); (try (refine gate_guard (by rfl) ?_; dsimp only)); at_builtin; refine Kd.R_append k78 (w0 := w) w.heap.size rfl (.tmp 112) (.tmp 118) 29 78 (.agg #[(.string ⟨#[]⟩), (.string ⟨#[]⟩)]) 32 rfl Tryz.underlying29 info78 rfl (by decide) (by omega) (.slice Ao51 x5_1.length co51) x5_1 (⟨a0.extract (x6_1 : Int).toNat (x8_3 : Int).toNat, (⟨#[]⟩ : ByteArray)⟩ : S78) [.string (a0.extract (x6_1 : Int).toNat (x8_3 : Int).toNat), .string (⟨#[]⟩ : ByteArray)] (fun _ => True) (fun _ => False) rfl rfl ?aP (fun _ hk => hk.elim) ?aF ?aO ?aB ?aS ?aL ?_; (case aP => exact k78_mkM _ _ _ (⟨a0.extract (x6_1 : Int).toNat (x8_3 : Int).toNat, (⟨#[]⟩ : ByteArray)⟩ : S78)); (case aB => exact (by repeat (first | (with_reducible first | exact HB.out | apply below_alloc | apply pw_below_drewN | apply below_drew1) | exact HB.out))); (case aF => exact (fun _ _ => trivial)); (case aO => exact (by (with_reducible repeat (first | apply Kd.R_alloc | apply Kd.R_drewN | apply Kd.R_drew)); exact HO_5.out)); (case aS => exact (below_size (by repeat (first | (with_reducible first | exact HB.out | apply below_alloc | apply pw_below_drewN | apply below_drew1) | exact HB.out)))); (case aL => have := LMc50.out; omega); intro v165 w52 ho hb hg hat; rw [← Ny164.out] at ho; have n0_ := Aside0.mk (hb); have n1_ := Aside0.mk (ho); clear HB; clear HO_5; have HB := n0_; have HO166 := n1_; clear n0_ n1_; clear ho hb hg hat))
                                                  go_meet
                                                  case rel => exact ⟨_, (y164), (wrap64 (x8_3 + 1)), (by first | rfl | (simp; done) | (simp [*]; done)), H', ⟨by have := HK1.out; have := HJ3.out; have := HK3.out; have := HJ25.out; have := HJ31.out; first | omega | exact Nat.le_refl _⟩, ⟨by (with_reducible repeat (first | apply Kd.R_alloc | apply Kd.R_drewN | apply Kd.R_drew)); exact HO166.out⟩, ⟨by repeat (first | (with_reducible first | exact HB.out | apply below_alloc | apply pw_below_drewN | apply below_drew1) | exact HB.out)⟩⟩
                                                · rw [if_neg c50] at H
                                                  exact absurd H (by simp)
                                            · replace c44 := Bool.eq_false_iff.mpr c44
                                              subst c44
                                              have H1 : (some (([] : List (S78)), x6_1, 12)) = some (r1, r2, r3) := by rw [if_neg (show ¬ (false = true) by decide)] at H; exact H
                                              clear H
                                              have H := H1
                                              clear H1
                                              simp only [Option.some.injEq, Prod.mk.injEq] at H
                                              obtain ⟨rfl, rfl, rfl⟩ := H
                                              go_wp2_with (first | ((with_reducible refine gate_callee (f := 62) rfl ?_); refine goesL_ (some 105) rfl rfl Tryz.func62 (by kernel_rfl) rfl #[.string (a0.extract (x6_1 : Int).toNat (x8_3 : Int).toNat)] rfl (by (try simp only [List.map_toArray, List.map_cons, List.map_nil]); first | done | rfl | (simp only [List.length_drop, List.length_take]; rfl)) ?_; (with_reducible refine (bulletinref09_ValidName.calls kj31 (a0.extract (x6_1 : Int).toNat (x8_3 : Int).toNat) false _ A43.out).mono ?_); rintro e w' ⟨rfl, ⟨nd, rfl⟩⟩; refine ⟨_, rfl, ?_⟩))
                                              go_ret3
                                              exact ⟨_, by first | rfl | (simp [errW_none, errW_some] <;> rfl) | (simp [*, errW_none, errW_some] <;> rfl), by first | exact Kd.R_nil _ _ _ _ _ | exact Kd.N_nil _ _ _ _ _ | exact Kd.V_nil _ _ _ _ _ | exact Kd.Q_nil _ _ _ _ _ | exact Kd.S_nil _ _ _ _ _, by repeat (first | (with_reducible first | exact HB.out | apply below_alloc | apply pw_below_drewN | apply below_drew1) | exact HB.out)⟩
                                          · rw [if_neg c42] at H
                                            exact absurd H (by simp)
                                        · rw [if_neg c41] at H
                                          exact absurd H (by simp)
                                      · rw [if_neg c40] at H
                                        exact absurd H (by simp)
                                  case rest =>
                                    clear HC38
                                    try clear c1
                                    try clear p1
                                    try clear q1
                                    try clear hx1
                                    try clear c2
                                    try clear c2b0
                                    try clear c2b1
                                    try clear p2
                                    try clear q2
                                    try clear hx2
                                    try clear c3
                                    try clear c3b0
                                    try clear p3
                                    try clear q3
                                    try clear hx3
                                    try clear c4
                                    try clear c5
                                    try clear c5b0
                                    try clear c6
                                    try clear c6b0
                                    try clear p6
                                    try clear p7
                                    try clear q7
                                    try clear hx7
                                    try clear c8
                                    try clear c8b0
                                    try clear c8b1
                                    try clear c9
                                    try clear c9b0
                                    try clear c9b1
                                    try clear c10
                                    try clear c10b0
                                    try clear c11
                                    try clear c11b0
                                    try clear c13
                                    try clear c13b0
                                    try clear c14
                                    try clear c14b0
                                    try clear p15
                                    try clear q15
                                    try clear hx15
                                    try clear c17
                                    try clear p18
                                    try clear q18
                                    try clear hx18
                                    try clear c20
                                    try clear c21
                                    try clear c21b0
                                    try clear c22
                                    try clear c22b0
                                    try clear p23
                                    try clear q23
                                    try clear hx23
                                    try clear c24
                                    try clear c24b0
                                    try clear c24b1
                                    try clear c25
                                    try clear c25b0
                                    try clear c27
                                    try clear c27b0
                                    try clear c28
                                    try clear c28b0
                                    try clear c29
                                    try clear c29b0
                                    try clear p30
                                    try clear q30
                                    try clear hx30
                                    try clear c33
                                    try clear c34
                                    try clear c34b0
                                    try clear c34b1
                                    try clear c34b2
                                    try clear c37
                                    try clear c39
                                    try clear c40
                                    try clear c40b0
                                    try clear c40b1
                                    try clear c41
                                    try clear c41b0
                                    try clear c41b1
                                    try clear c42
                                    try clear c42b0
                                    try clear c42b1
                                    try clear c44
                                    try clear c45
                                    try clear c45b0
                                    try clear c45b1
                                    try clear c47
                                    try clear c47b0
                                    try clear c48
                                    try clear c48b0
                                    try clear c49
                                    try clear c49b0
                                    try clear c50
                                    try clear p1
                                    try clear p15
                                    try clear p18
                                    try clear p2
                                    try clear p23
                                    try clear p3
                                    try clear p30
                                    try clear p6
                                    try clear p7
                                    try clear q1
                                    try clear q15
                                    try clear q18
                                    try clear q2
                                    try clear q23
                                    try clear q3
                                    try clear q30
                                    try clear q7
                                    obtain ⟨kq, x5_37, x11_37, rfl, HA, HJ37, HO_5, HB⟩ := hcut
                                    cases kq with
                                    | zero => exact absurd HA.out (by simp [bulletinref09_Parse.j7])
                                    | succ kj37 =>
                                      have H := HA.out
                                      clear HA
                                      simp only [bulletinref09_Parse.j7] at H
                                      obtain ⟨ji53, hji53⟩ : ∃ j_ : Int, (wrap64 ((x5_37.length : Int) - 1)) = j_ := ⟨_, rfl⟩
                                      replace H : (if 0 ≤ (ji53) then (if (ji53) < (x5_37.length : Int) then ((bulletinref09_add.f kj37 ((rd_T78 x5_37 (ji53)).f1) a0 x11_37 x7_3).bind fun bt168 => (if bt168.2 ≥ 0 then (some (([] : List (S78)), bt168.2, 5)) else (if (bt168.1.size : Int) > 8192 then (some (([] : List (S78)), x6_1, 5)) else (bulletinref09_Parse.l0 kj37 a0 (x5_37.set ((ji53) : Int).toNat (⟨(rd_T78 x5_37 (ji53)).f0, bt168.1⟩ : S78)) (wrap64 (x7_3 + 1)))))) else (none)) else (none)) = some (r1, r2, r3) := by first | (rw [hji53] at H; exact H) | (simp only [hji53] at H ⊢; exact H)
                                      have hji53w : (IntKind.i64.wrap ((x5_37.length : Int) - 1)) = ji53 := (i64_w _).trans hji53
                                      by_cases c54 : 0 ≤ (ji53)
                                      · rw [if_pos c54] at H
                                        have c54b0 : decide (0 ≤ (ji53)) = true := decide_eq_true c54
                                        clear c54
                                        by_cases c55 : (ji53) < (x5_37.length : Int)
                                        · rw [if_pos c55] at H
                                          have c55b0 : decide ((ji53) < (x5_37.length : Int)) = true := decide_eq_true c55
                                          clear c55
                                          replace H := Option.bind_eq_some_iff.mp H
                                          obtain ⟨⟨t168, t169⟩, A560, H⟩ := H
                                          replace H : (if t169 ≥ 0 then (some (([] : List (S78)), t169, 5)) else (if (t168.size : Int) > 8192 then (some (([] : List (S78)), x6_1, 5)) else (bulletinref09_Parse.l0 kj37 a0 (x5_37.set ((ji53) : Int).toNat (⟨(rd_T78 x5_37 (ji53)).f0, t168⟩ : S78)) (wrap64 (x7_3 + 1))))) = some (r1, r2, r3) := H
                                          have A56 := Aside0.mk A560
                                          clear A560
                                          by_cases c57 : t169 ≥ 0
                                          · rw [if_pos c57] at H
                                            have c57b0 : decide (0 ≤ t169) = true := decide_eq_true c57
                                            clear c57
                                            simp only [Option.some.injEq, Prod.mk.injEq] at H
                                            obtain ⟨rfl, rfl, rfl⟩ := H
                                            obtain ⟨Ao58, co58, eo58⟩ := Kd.R_slice HO_5.out
                                            subst eo58
                                            have p167 : 0 ≤ ((ji53) : Int) := of_decide_eq_true (by first | (with_reducible assumption) | assumption)
                                            have q167 : (ji53) < (x5_37.length : Int) := of_decide_eq_true (by first | (with_reducible assumption) | assumption)
                                            obtain ⟨ad167, e167, hx167_0, hx167_1⟩ := at_T78 (Kd.R_reads' HO_5.out).2.2 (ji53) p167 q167
                                            cases e167
                                            replace p167 := eq_true p167
                                            replace q167 := eq_true q167
                                            go_wp2_with (first | ((with_reducible refine gate_callee (f := 63) rfl ?_); refine goesL_ (some 133) rfl rfl Tryz.func63 (by kernel_rfl) rfl #[.string ((rd_T78 x5_37 (ji53)).f1), .string a0, .int .i64 x11_37, .int .i64 x7_3] rfl (by (try simp only [List.map_toArray, List.map_cons, List.map_nil]); first | done | (simp only [hji53]; rfl) | rfl | (simp only [List.length_drop, List.length_take]; rfl)) ?_; (with_reducible refine (bulletinref09_add.calls kj37 ((rd_T78 x5_37 (ji53)).f1) a0 x11_37 x7_3 t168 t169 _ A56.out).mono ?_); rintro e w' ⟨rfl, ⟨nd, rfl⟩⟩; refine ⟨_, rfl, ?_⟩))
                                            go_ret3
                                            exact ⟨_, by first | rfl | (simp [errW_none, errW_some] <;> rfl) | (simp only [← hji53]; first | rfl | (simp [errW_none, errW_some] <;> rfl)) | (simp [*, errW_none, errW_some] <;> rfl), by first | exact Kd.R_nil _ _ _ _ _ | exact Kd.N_nil _ _ _ _ _ | exact Kd.V_nil _ _ _ _ _ | exact Kd.Q_nil _ _ _ _ _ | exact Kd.S_nil _ _ _ _ _, by repeat (first | (with_reducible first | exact HB.out | apply below_alloc | apply pw_below_drewN | apply below_drew1) | exact HB.out)⟩
                                          · rw [if_neg c57] at H
                                            have c57b0 : decide (0 ≤ t169) = false := decide_eq_false c57
                                            clear c57
                                            by_cases c59 : (t168.size : Int) > 8192
                                            · rw [if_pos c59] at H
                                              have c59b0 : decide (8192 < (t168.size : Int)) = true := decide_eq_true c59
                                              have c59b1 : decide (8192 < t168.size) = true := decide_eq_true (by omega)
                                              clear c59
                                              simp only [Option.some.injEq, Prod.mk.injEq] at H
                                              obtain ⟨rfl, rfl, rfl⟩ := H
                                              obtain ⟨Ao60, co60, eo60⟩ := Kd.R_slice HO_5.out
                                              subst eo60
                                              have p167 : 0 ≤ ((ji53) : Int) := of_decide_eq_true (by first | (with_reducible assumption) | assumption)
                                              have q167 : (ji53) < (x5_37.length : Int) := of_decide_eq_true (by first | (with_reducible assumption) | assumption)
                                              obtain ⟨ad167, e167, hx167_0, hx167_1⟩ := at_T78 (Kd.R_reads' HO_5.out).2.2 (ji53) p167 q167
                                              cases e167
                                              replace p167 := eq_true p167
                                              replace q167 := eq_true q167
                                              go_wp2_with (first | ((with_reducible refine gate_callee (f := 63) rfl ?_); refine goesL_ (some 133) rfl rfl Tryz.func63 (by kernel_rfl) rfl #[.string ((rd_T78 x5_37 (ji53)).f1), .string a0, .int .i64 x11_37, .int .i64 x7_3] rfl (by (try simp only [List.map_toArray, List.map_cons, List.map_nil]); first | done | (simp only [hji53]; rfl) | rfl | (simp only [List.length_drop, List.length_take]; rfl)) ?_; (with_reducible refine (bulletinref09_add.calls kj37 ((rd_T78 x5_37 (ji53)).f1) a0 x11_37 x7_3 t168 t169 _ A56.out).mono ?_); rintro e w' ⟨rfl, ⟨nd, rfl⟩⟩; refine ⟨_, rfl, ?_⟩))
                                              go_ret3
                                              exact ⟨_, by first | rfl | (simp [errW_none, errW_some] <;> rfl) | (simp only [← hji53]; first | rfl | (simp [errW_none, errW_some] <;> rfl)) | (simp [*, errW_none, errW_some] <;> rfl), by first | exact Kd.R_nil _ _ _ _ _ | exact Kd.N_nil _ _ _ _ _ | exact Kd.V_nil _ _ _ _ _ | exact Kd.Q_nil _ _ _ _ _ | exact Kd.S_nil _ _ _ _ _, by repeat (first | (with_reducible first | exact HB.out | apply below_alloc | apply pw_below_drewN | apply below_drew1) | exact HB.out)⟩
                                            · rw [if_neg c59] at H
                                              have c59b0 : decide (8192 < (t168.size : Int)) = false := decide_eq_false c59
                                              have c59b1 : decide (8192 < t168.size) = false := decide_eq_false (by omega)
                                              clear c59
                                              obtain ⟨y170, hy170⟩ : ∃ y_ : List (S78), y_ = (x5_37.set ((ji53) : Int).toNat (⟨(rd_T78 x5_37 (ji53)).f0, t168⟩ : S78)) := ⟨_, rfl⟩
                                              replace H : (bulletinref09_Parse.l0 kj37 a0 y170 (wrap64 (x7_3 + 1))) = some (r1, r2, r3) := by first | (rw [hy170]; with_reducible exact H) | (have H2_ := (Option.bind_some _ _).symm.trans H; rw [hy170]; with_reducible exact H2_) | (have H2_ := (Option.bind_some _ _).symm.trans H; with_reducible exact H2_) | with_reducible exact H | (rw [hy170]; exact H) | exact H
                                              have Ny170 := Aside0.mk hy170
                                              clear hy170
                                              have H' := Aside0.mk H
                                              clear H
                                              obtain ⟨Ao62, co62, eo62⟩ := Kd.R_slice HO_5.out
                                              subst eo62
                                              have p167 : 0 ≤ ((ji53) : Int) := of_decide_eq_true (by first | (with_reducible assumption) | assumption)
                                              have q167 : (ji53) < (x5_37.length : Int) := of_decide_eq_true (by first | (with_reducible assumption) | assumption)
                                              obtain ⟨ad167, e167, hx167_0, hx167_1⟩ := at_T78 (Kd.R_reads' HO_5.out).2.2 (ji53) p167 q167
                                              cases e167
                                              replace p167 := eq_true p167
                                              replace q167 := eq_true q167
                                              go_wp2_with (first | ((with_reducible refine gate_callee (f := 63) rfl ?_); refine goesL_ (some 133) rfl rfl Tryz.func63 (by kernel_rfl) rfl #[.string ((rd_T78 x5_37 (ji53)).f1), .string a0, .int .i64 x11_37, .int .i64 x7_3] rfl (by (try simp only [List.map_toArray, List.map_cons, List.map_nil]); first | done | (simp only [hji53]; rfl) | rfl | (simp only [List.length_drop, List.length_take]; rfl)) ?_; (with_reducible refine (bulletinref09_add.calls kj37 ((rd_T78 x5_37 (ji53)).f1) a0 x11_37 x7_3 t168 t169 _ A56.out).mono ?_); rintro e w' ⟨rfl, ⟨nd, rfl⟩⟩; refine ⟨_, rfl, ?_⟩; (try (rw [drewN_self wc]; generalize hq_ : World.drewN wc _ = wc; have n0_ : Aside0 (Kd.R k78 78 wc w.heap.size (fun _ => True) (.slice (some ad167) x5_37.length co62) x5_37) := ⟨by rw [← hq_]; exact (by (with_reducible repeat (first | apply Kd.R_alloc | apply Kd.R_drewN | apply Kd.R_drew)); exact HO_5.out)⟩; have n1_ : Aside0 (Below w.heap.size w wc) := ⟨by rw [← hq_]; exact (by repeat (first | (with_reducible first | exact HB.out | apply below_alloc | apply pw_below_drewN | apply below_drew1) | exact HB.out))⟩; clear HO_5 HB hq_; have HO_5 := n0_; have HB := n1_; clear n0_ n1_)); have p61 : 0 ≤ ((ji53) : Int) := of_decide_eq_true (by first | (with_reducible assumption) | assumption); have q61 : ((ji53) : Int) < ((x5_37.length : Int) : Int) := of_decide_eq_true (by first | (with_reducible assumption) | assumption); obtain ⟨go61, co61, eo61, gb61, gl61, cl61, HG61⟩ := Kd.R_form HO_5.out (by omega); (first | cases eo61 | (injection eo61 with ea_ en_ ec_; (first | subst ea_ | (injection ea_ with ea_; subst ea_)); subst ec_; clear en_)); have GB61 := Aside0.mk gb61; have GG61 := Aside0.mk HG61; clear gb61 gl61 HG61; (first | simp only [add_plain] at hx167_0 | skip); (first | simp only [add_plain] at hx167_1 | skip); obtain ⟨ce61, hcl61, hM61, hcc61, hfr61⟩ := Kd.R_elem HO_5.out z78 ((ji53) : Int) p61 q61; obtain rfl := k78_openM hM61; have hx61_0 : wc.cell? ⟨go61, ((ji53) : Int).toNat * 2, none⟩ = some (.string ((rd_T78 x5_37 (ji53)).f0)) := hcc61 0 _ rfl; have hx61_1 : wc.cell? ⟨go61, ((ji53) : Int).toNat * 2 + 1, none⟩ = some (.string ((rd_T78 x5_37 (ji53)).f1)) := hcc61 1 _ rfl; have hf61_0 : wc.frozen? ⟨go61, ((ji53) : Int).toNat * 2, none⟩ = false := hfr61 0; have hf61_1 : wc.frozen? ⟨go61, ((ji53) : Int).toNat * 2 + 1, none⟩ = false := hfr61 1; clear hcl61 hcc61 hfr61 hM61; replace p61 := eq_true p61; replace q61 := eq_true q61; have HX63 := Aside0.mk (show Kd.R k78 78 wc w.heap.size (fun _ => True) (.slice (some ⟨go61, 0, none⟩) x5_37.length co62) x5_37 from (by (with_reducible repeat (first | apply Kd.R_alloc | apply Kd.R_drewN | apply Kd.R_drew)); exact HO_5.out)); obtain ⟨ce63, hcl63, hM63, hcc63, hfr63⟩ := Kd.R_elem HX63.out z78 ((ji53) : Int) (of_decide_eq_true (by first | (with_reducible assumption) | assumption)) (by have h_ : ((ji53) : Int) < ((x5_37.length : Int) : Int) := of_decide_eq_true (by first | (with_reducible assumption) | assumption); first | exact h_ | (have e_ := (Kd.R_reads' HO_5.out).1; omega) | simpa using h_); obtain rfl := k78_openM hM63; have HP63 := Kd.R_seg HX63.out ((ji53) : Int) (of_decide_eq_true (by first | (with_reducible assumption) | assumption)) (by have h_ : ((ji53) : Int) < ((x5_37.length : Int) : Int) := of_decide_eq_true (by first | (with_reducible assumption) | assumption); first | exact h_ | (have e_ := (Kd.R_reads' HO_5.out).1; omega) | simpa using h_) (seg := [.string t168]) (j := 1) hcl63 hcc63 (show 2 ≤ 2 from by decide) (x' := (⟨(rd_T78 x5_37 (ji53)).f0, t168⟩ : S78)) (k78_mkM _ _ _ (⟨(rd_T78 x5_37 (ji53)).f0, t168⟩ : S78) ) (fun _ hk => hk); have hx63_1 := hcc63 1 _ rfl; (try simp only [show (k78).sz = 2 from rfl, Nat.mul_one, Nat.add_zero] at hx63_1); have hf63_1 := hfr63 1; (try simp only [show (k78).sz = 2 from rfl, Nat.mul_one, Nat.add_zero] at hf63_1); clear hcl63 hcc63 hfr63 hM63) | ((with_reducible refine gate_store (t := 9) (p := 149) rfl ?_); refine store_event (t := 9) (p := 149) (v := ?vo_w64) (w1 := (wc.setCell ⟨go61, ((ji53) : Int).toNat * 2 + 1, none⟩ (.string t168))) ?hg ?ho ?hn ?hr ?_; (case ho => rfl); (case hg => rfl); (case hn => rfl); (case hr => first | (go_simp; done) | (go_simp; rfl)); intro w64 hw; have hg : wc.grownBy w64 (some go61) := (by rw [hw]; exact HP63.2); have hp_ : Kd.R k78 78 w64 w.heap.size (fun _ => True) (.slice (some ⟨go61, 0, none⟩) x5_37.length co62) y170 := (by rw [hw, Ny170.out]; exact HP63.1); clear HP63; have n0_ := Aside0.mk (hp_); have n1_ := Aside0.mk ((by rw [hw]; exact below_set (HB.out) GB61.out : Below w.heap.size w w64)); clear HO_5; clear HB; have HO_5 := n0_; have HB := n1_; clear n0_ n1_; clear hg hw hp_))
                                              go_roundg kj37
                                              case measure => have := HK1.out; have := HJ3.out; have := HK3.out; have := HJ25.out; have := HJ31.out; have := HJ37.out; omega
                                              case rel => exact ⟨(y170), (wrap64 (x7_3 + 1)), (by first | rfl | (simp; done) | (simp [*]; done)), H', ⟨by have := HK1.out; have := HJ3.out; have := HK3.out; have := HJ25.out; have := HJ31.out; have := HJ37.out; omega⟩, ⟨by (with_reducible repeat (first | apply Kd.R_alloc | apply Kd.R_drewN | apply Kd.R_drew)); exact HO_5.out⟩, ⟨by repeat (first | (with_reducible first | exact HB.out | apply below_alloc | apply pw_below_drewN | apply below_drew1) | exact HB.out)⟩⟩
                                        · rw [if_neg c55] at H
                                          exact absurd H (by simp)
                                      · rw [if_neg c54] at H
                                        exact absurd H (by simp)
        · rw [if_neg c3] at H
          have c3b0 : decide (x6_1 < (a0.size : Int)) = false := decide_eq_false c3
          clear c3
          simp only [Option.some.injEq, Prod.mk.injEq] at H
          obtain ⟨rfl, rfl, rfl⟩ := H
          go_wp2
          go_ret3
          exact ⟨_, by first | rfl | (simp [errW_none, errW_some] <;> rfl) | (simp [*, errW_none, errW_some] <;> rfl), by (with_reducible repeat (first | apply Kd.R_alloc | apply Kd.R_drewN | apply Kd.R_drew)); exact HO_5.out, by repeat (first | (with_reducible first | exact HB.out | apply below_alloc | apply pw_below_drewN | apply below_drew1) | exact HB.out)⟩

end Go.Proofs.YtfeciafdioepiaaGreatDoor.PA
