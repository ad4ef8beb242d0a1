-- PRINTED by print.py (a twelfth state) out of the translation. Not trusted: Lean checks it.
import Derived.Test.YtfeciafdioepiaaPA0
namespace Go.Proofs.Ytfeciafdioepiaa.PA
open Go.RowKit Go.Proofs.YtfeciafdioepiaaW.PrintWords Go.Proofs.YtfeciafdioepiaaW.PrintLast Go.Proofs.YtfeciafdioepiaaW.PrintMore
attribute [local go_sem] max2_int min2_int max_two min_two max_three min_three max_four min_four   -- for this text's walks alone
set_option linter.unusedVariables false
set_option linter.unusedSimpArgs false

/-! ### ascii_IsLower: function 65 -/
def ascii_IsLower.f (a0 : Int) : Option (Bool) := if a0 ≥ 97 then (some (decide (a0 ≤ 122))) else (some false)
set_option maxHeartbeats 8000000 in
set_option maxRecDepth 100000 in
theorem ascii_IsLower.calls (a0 : Int) (r : Bool) (w : World) (h : ascii_IsLower.f a0 = some r) :
    Calls Try.prog 65 #[.int .u8 a0] w fun e w' => e = .returned (.bool r) ∧ Drawn0 w w' := by
  have H : (if a0 ≥ 97 then (some (decide (a0 ≤ 122))) else (some false)) = some r := h
  clear h
  by_cases c2 : a0 ≥ 97
  · rw [if_pos c2] at H
    have c2b0 : decide (97 ≤ a0) = true := decide_eq_true c2
    clear c2
    obtain rfl := Option.some.inj H
    go_enter Try.func65, Try.ntmps65
    go_wp2
    go_ret
    exact ⟨by first | rfl | (simp; done) | (simp [*]; done), by repeat (first | exact Drawn0.refl _ | apply Drawn0.step)⟩
  · rw [if_neg c2] at H
    have c2b0 : decide (97 ≤ a0) = false := decide_eq_false c2
    clear c2
    obtain rfl := Option.some.inj H
    go_enter Try.func65, Try.ntmps65
    go_wp2
    go_ret
    exact ⟨by first | rfl | (simp; done) | (simp [*]; done), by repeat (first | exact Drawn0.refl _ | apply Drawn0.step)⟩

/-! ### ascii_IsUpper: function 66 -/
def ascii_IsUpper.f (a0 : Int) : Option (Bool) := if a0 ≥ 65 then (some (decide (a0 ≤ 90))) else (some false)
set_option maxHeartbeats 8000000 in
set_option maxRecDepth 100000 in
theorem ascii_IsUpper.calls (a0 : Int) (r : Bool) (w : World) (h : ascii_IsUpper.f a0 = some r) :
    Calls Try.prog 66 #[.int .u8 a0] w fun e w' => e = .returned (.bool r) ∧ Drawn0 w w' := by
  have H : (if a0 ≥ 65 then (some (decide (a0 ≤ 90))) else (some false)) = some r := h
  clear h
  by_cases c2 : a0 ≥ 65
  · rw [if_pos c2] at H
    have c2b0 : decide (65 ≤ a0) = true := decide_eq_true c2
    clear c2
    obtain rfl := Option.some.inj H
    go_enter Try.func66, Try.ntmps66
    go_wp2
    go_ret
    exact ⟨by first | rfl | (simp; done) | (simp [*]; done), by repeat (first | exact Drawn0.refl _ | apply Drawn0.step)⟩
  · rw [if_neg c2] at H
    have c2b0 : decide (65 ≤ a0) = false := decide_eq_false c2
    clear c2
    obtain rfl := Option.some.inj H
    go_enter Try.func66, Try.ntmps66
    go_wp2
    go_ret
    exact ⟨by first | rfl | (simp; done) | (simp [*]; done), by repeat (first | exact Drawn0.refl _ | apply Drawn0.step)⟩

/-! ### ascii_IsLetter: function 37 -/
def ascii_IsLetter.f (a0 : Int) : Option (Bool) := (ascii_IsLower.f a0).bind fun t101 => (if t101 = true then (some true) else ((ascii_IsUpper.f a0).bind fun t102 => (some t102)))
set_option maxHeartbeats 8000000 in
set_option maxRecDepth 100000 in
theorem ascii_IsLetter.calls (a0 : Int) (r : Bool) (w : World) (h : ascii_IsLetter.f a0 = some r) :
    Calls Try.prog 37 #[.int .u8 a0] w fun e w' => e = .returned (.bool r) ∧ Drawn0 w w' := by
  have H : ((ascii_IsLower.f a0).bind fun t101 => (if t101 = true then (some true) else ((ascii_IsUpper.f a0).bind fun t102 => (some t102)))) = some r := h
  clear h
  replace H := Option.bind_eq_some_iff.mp H
  obtain ⟨t101, A20, H⟩ := H
  replace H : (if t101 = true then (some true) else ((ascii_IsUpper.f a0).bind fun t102 => (some t102))) = some r := H
  have A2 := Aside0.mk A20
  clear A20
  by_cases c3 : t101 = true
  · subst c3
    have H1 : (some true) = some r := by rw [if_pos rfl] at H; exact H
    clear H
    have H := H1
    clear H1
    obtain rfl := Option.some.inj H
    go_enter Try.func37, Try.ntmps37
    go_wp2_with (first | ((with_reducible refine gate_callee (f := 65) rfl ?_); refine goesL_ (some 4) rfl rfl Try.func65 (by kernel_rfl) rfl #[.int .u8 a0] rfl (by (try simp only [List.map_toArray, List.map_cons, List.map_nil]); first | done | rfl | (simp only [List.length_drop, List.length_take]; rfl)) ?_; (with_reducible refine (ascii_IsLower.calls a0 true _ A2.out).mono ?_); rintro e w' ⟨rfl, ⟨nd, rfl⟩⟩; refine ⟨_, rfl, ?_⟩))
    go_ret
    exact ⟨by first | rfl | (simp; done) | (simp [*]; done), by repeat (first | exact Drawn0.refl _ | apply Drawn0.step)⟩
  · replace c3 := Bool.eq_false_iff.mpr c3
    subst c3
    have H1 : ((ascii_IsUpper.f a0).bind fun t102 => (some t102)) = some r := by rw [if_neg (show ¬ (false = true) by decide)] at H; exact H
    clear H
    have H := H1
    clear H1
    replace H := Option.bind_eq_some_iff.mp H
    obtain ⟨t102, A40, H⟩ := H
    replace H : (some t102) = some r := H
    have A4 := Aside0.mk A40
    clear A40
    obtain rfl := Option.some.inj H
    go_enter Try.func37, Try.ntmps37
    go_wp2_with (first | ((with_reducible refine gate_callee (f := 65) rfl ?_); refine goesL_ (some 4) rfl rfl Try.func65 (by kernel_rfl) rfl #[.int .u8 a0] rfl (by (try simp only [List.map_toArray, List.map_cons, List.map_nil]); first | done | rfl | (simp only [List.length_drop, List.length_take]; rfl)) ?_; (with_reducible refine (ascii_IsLower.calls a0 false _ A2.out).mono ?_); rintro e w' ⟨rfl, ⟨nd, rfl⟩⟩; refine ⟨_, rfl, ?_⟩) | (go_at_call 66; (with_reducible refine (ascii_IsUpper.calls a0 t102 _ A4.out).mono ?_); rintro e w' ⟨rfl, ⟨nd, rfl⟩⟩))
    go_ret
    exact ⟨by first | rfl | (simp; done) | (simp [*]; done), by repeat (first | exact Drawn0.refl _ | apply Drawn0.step)⟩

/-! ### ascii_IsDigit: function 38 -/
def ascii_IsDigit.f (a0 : Int) : Option (Bool) := if a0 ≥ 48 then (some (decide (a0 ≤ 57))) else (some false)
set_option maxHeartbeats 8000000 in
set_option maxRecDepth 100000 in
theorem ascii_IsDigit.calls (a0 : Int) (r : Bool) (w : World) (h : ascii_IsDigit.f a0 = some r) :
    Calls Try.prog 38 #[.int .u8 a0] w fun e w' => e = .returned (.bool r) ∧ Drawn0 w w' := by
  have H : (if a0 ≥ 48 then (some (decide (a0 ≤ 57))) else (some false)) = some r := h
  clear h
  by_cases c2 : a0 ≥ 48
  · rw [if_pos c2] at H
    have c2b0 : decide (48 ≤ a0) = true := decide_eq_true c2
    clear c2
    obtain rfl := Option.some.inj H
    go_enter Try.func38, Try.ntmps38
    go_wp2
    go_ret
    exact ⟨by first | rfl | (simp; done) | (simp [*]; done), by repeat (first | exact Drawn0.refl _ | apply Drawn0.step)⟩
  · rw [if_neg c2] at H
    have c2b0 : decide (48 ≤ a0) = false := decide_eq_false c2
    clear c2
    obtain rfl := Option.some.inj H
    go_enter Try.func38, Try.ntmps38
    go_wp2
    go_ret
    exact ⟨by first | rfl | (simp; done) | (simp [*]; done), by repeat (first | exact Drawn0.refl _ | apply Drawn0.step)⟩

/-! ### field_ValidName: function 12 -/
mutual
def field_ValidName.j0 : Nat → ByteArray → Bool → Option (Bool)
  | 0, _, _ => none
  | k + 1, x0, x16 => if x16 = true then (some false) else (field_ValidName.l0 k x0 (x0.size : Int) 0)
def field_ValidName.l0 : Nat → ByteArray → Int → Int → Option (Bool)
  | 0, _, _, _ => none
  | k + 1, x0, x18, x19 => if x19 < x18 then (if 0 ≤ x19 then (if x19 < (x0.size : Int) then ((ascii_IsLetter.f (bt x0 x19)).bind fun t104 => (if t104 = true then (field_ValidName.l0 k x0 x18 (wrap64 (x19 + 1))) else ((ascii_IsDigit.f (bt x0 x19)).bind fun t105 => (if t105 = true then (field_ValidName.l0 k x0 x18 (wrap64 (x19 + 1))) else (if (bt x0 x19) = 45 then (field_ValidName.l0 k x0 x18 (wrap64 (x19 + 1))) else (some false)))))) else (none)) else (none)) else (some true)
end
def field_ValidName.f (k : Nat) (a0 : ByteArray) : Option (Bool) := if a0.toList = ([] : List UInt8) then (field_ValidName.j0 k a0 true) else (if (a0.size : Int) > 40 then (field_ValidName.j0 k a0 true) else (if 0 < (a0.size : Int) then ((ascii_IsLetter.f (bt a0 0)).bind fun t103 => (field_ValidName.j0 k a0 (!t103))) else (none)))
theorem field_ValidName.mono_l : ∀ k, (∀ y0 y1, LeO (field_ValidName.j0 k y0 y1) (field_ValidName.j0 (k + 1) y0 y1)) ∧ (∀ y0 y1 y2, LeO (field_ValidName.l0 k y0 y1 y2) (field_ValidName.l0 (k + 1) y0 y1 y2))
  | 0 => ⟨fun _ _ r h => by simp [field_ValidName.j0] at h, fun _ _ _ r h => by simp [field_ValidName.l0] at h⟩
  | k + 1 => by
    obtain ⟨ih0, ih1⟩ := field_ValidName.mono_l k
    refine ⟨?_, ?_⟩
    · intro y0 y1
      unfold field_ValidName.j0
      repeat' first
      | (with_reducible exact ih0 _ _)
      | (with_reducible exact ih1 _ _ _)
      | (with_reducible exact LeO.refl _)
      | (with_reducible exact LeO.none _)
      | (with_reducible refine LeO.ite ?_ ?_)
      | (with_reducible refine LeO.bind ?_ (fun _ => ?_))
      | exact ih0 _ _
      | exact ih1 _ _ _
      | exact LeO.none _
      | refine LeO.ite ?_ ?_
      | refine LeO.bind ?_ (fun _ => ?_)
    · intro y0 y1 y2
      unfold field_ValidName.l0
      repeat' first
      | (with_reducible exact ih0 _ _)
      | (with_reducible exact ih1 _ _ _)
      | (with_reducible exact LeO.refl _)
      | (with_reducible exact LeO.none _)
      | (with_reducible refine LeO.ite ?_ ?_)
      | (with_reducible refine LeO.bind ?_ (fun _ => ?_))
      | exact ih0 _ _
      | exact ih1 _ _ _
      | exact LeO.none _
      | refine LeO.ite ?_ ?_
      | refine LeO.bind ?_ (fun _ => ?_)
theorem field_ValidName.mono : ∀ a0 k, LeO (field_ValidName.f k a0) (field_ValidName.f (k + 1) a0) := by
  intro a0 k
  obtain ⟨ih0, ih1⟩ := field_ValidName.mono_l k
  unfold field_ValidName.f
  repeat' first
      | (with_reducible exact ih0 _ _)
      | (with_reducible exact ih1 _ _ _)
      | (with_reducible exact LeO.refl _)
      | (with_reducible exact LeO.none _)
      | (with_reducible refine LeO.ite ?_ ?_)
      | (with_reducible refine LeO.bind ?_ (fun _ => ?_))
      | exact ih0 _ _
      | exact ih1 _ _ _
      | exact LeO.none _
      | refine LeO.ite ?_ ?_
      | refine LeO.bind ?_ (fun _ => ?_)
set_option maxHeartbeats 8000000 in
set_option maxRecDepth 100000 in
theorem field_ValidName.calls (k : Nat) (a0 : ByteArray) (r : Bool) (w : World) (h : field_ValidName.f k a0 = some r) :
    Calls Try.prog 12 #[.string a0] w fun e w' => e = .returned (.bool r) ∧ Drawn0 w w' := by
  have H : (if a0.toList = ([] : List UInt8) then (field_ValidName.j0 k a0 true) else (if (a0.size : Int) > 40 then (field_ValidName.j0 k a0 true) else (if 0 < (a0.size : Int) then ((ascii_IsLetter.f (bt a0 0)).bind fun t103 => (field_ValidName.j0 k a0 (!t103))) else (none)))) = some r := h
  clear h
  have HC2 := Aside0.mk H
  clear H
  go_enter Try.func12, Try.ntmps12
  go_upto_region 1 with (fail)
  go_cut [16] (fun v16 wc => ∃ (kq : Nat) (x16_1 : Bool), v16 = .bool x16_1 ∧ Aside0 (field_ValidName.j0 kq a0 x16_1 = some r) ∧ Aside0 (kq ≤ k) ∧ Drawn0 w wc)
  case first =>
    have H := HC2.out
    clear HC2
    by_cases c3 : a0.toList = ([] : List UInt8)
    · rw [if_pos c3] at H
      have c3b0 : (a0.toList == ([] : List UInt8)) = true := beq_iff_eq.mpr c3
      have c3b1 : (a0.toList != ([] : List UInt8)) = false := bne_eq_false_iff_eq.mpr c3
      clear c3
      (first | rw [c3b0] | (simp only [i64_w, i32_w]; rw [c3b0]) | skip)
      have H' := Aside0.mk H
      clear H
      go_wp2
      go_meet
      case rel => exact ⟨_, (true), (by first | rfl | (simp; done) | (simp [*]; done)), H', ⟨by first | omega | exact Nat.le_refl _⟩, by repeat (first | exact Drawn0.refl _ | apply Drawn0.step)⟩
    · rw [if_neg c3] at H
      have c3b0 : (a0.toList == ([] : List UInt8)) = false := beq_eq_false_iff_ne.mpr c3
      have c3b1 : (a0.toList != ([] : List UInt8)) = true := bne_iff_ne.mpr c3
      (first | rw [c3b0] | (simp only [i64_w, i32_w]; rw [c3b0]) | skip)
      by_cases c4 : (a0.size : Int) > 40
      · rw [if_pos c4] at H
        have c4b0 : decide (40 < (a0.size : Int)) = true := decide_eq_true c4
        have c4b1 : decide (40 < a0.size) = true := decide_eq_true (by omega)
        clear c4
        have H' := Aside0.mk H
        clear H
        go_wp2
        go_meet
        case rel => exact ⟨_, (true), (by first | rfl | (simp; done) | (simp [*]; done)), H', ⟨by first | omega | exact Nat.le_refl _⟩, by repeat (first | exact Drawn0.refl _ | apply Drawn0.step)⟩
      · rw [if_neg c4] at H
        have c4b0 : decide (40 < (a0.size : Int)) = false := decide_eq_false c4
        have c4b1 : decide (40 < a0.size) = false := decide_eq_false (by omega)
        clear c4
        by_cases c5 : 0 < (a0.size : Int)
        · rw [if_pos c5] at H
          have c5b0 : decide (0 < (a0.size : Int)) = true := decide_eq_true c5
          have c5b1 : decide (0 < a0.size) = true := decide_eq_true (by omega)
          clear c5
          replace H := Option.bind_eq_some_iff.mp H
          obtain ⟨t103, A70, H⟩ := H
          replace H : (field_ValidName.j0 k a0 (!t103)) = some r := H
          have A7 := Aside0.mk A70
          clear A70
          have H' := Aside0.mk H
          clear H
          have p6 : 0 ≤ (0 : Int) := (by omega)
          have q6 : 0 < a0.size := (by have : (0 : Int) < (a0.size : Int) := of_decide_eq_true (by first | (with_reducible assumption) | assumption); omega)
          have hx6 : ∀ h : 0 < a0.size, ((a0[0]'h).toNat : Int) = bt a0 0 := bt_at a0 0
          clear p6
          have qi6 : (0 < (a0.size : Int)) = True := eq_true (of_decide_eq_true (by first | (with_reducible assumption) | assumption))
          replace q6 := eq_true q6
          go_wp2_with (first | (go_at_call 37; (with_reducible refine (ascii_IsLetter.calls (bt a0 0) t103 _ A7.out).mono ?_); rintro e w' ⟨rfl, ⟨nd, rfl⟩⟩))
          go_meet
          case rel => exact ⟨_, (!t103), (by first | rfl | (simp; done) | (simp [*]; done)), H', ⟨by first | omega | exact Nat.le_refl _⟩, by repeat (first | exact Drawn0.refl _ | apply Drawn0.step)⟩
        · rw [if_neg c5] at H
          exact absurd H (by simp)
  case rest =>
    clear HC2
    try clear c1
    try clear p2
    try clear c3
    try clear c3b0
    try clear c3b1
    try clear c4
    try clear c4b0
    try clear c4b1
    try clear c5
    try clear c5b0
    try clear c5b1
    try clear p6
    try clear q6
    try clear hx6
    try clear qi6
    try clear p6
    try clear q6
    obtain ⟨kq, x16_1, rfl, HA, HJ1, ⟨mc1, rfl⟩⟩ := hcut
    cases kq with
    | zero => exact absurd HA.out (by simp [field_ValidName.j0])
    | succ kj1 =>
      have H := HA.out
      clear HA
      simp only [field_ValidName.j0] at H
      by_cases c8 : x16_1 = true
      · subst c8
        have H1 : (some false) = some r := by rw [if_pos rfl] at H; exact H
        clear H
        have H := H1
        clear H1
        obtain rfl := Option.some.inj H
        go_wp2
        go_ret
        exact ⟨by first | rfl | (simp; done) | (simp [*]; done), by repeat (first | exact Drawn0.refl _ | apply Drawn0.step)⟩
      · replace c8 := Bool.eq_false_iff.mpr c8
        subst c8
        have H1 : (field_ValidName.l0 kj1 a0 (a0.size : Int) 0) = some r := by rw [if_neg (show ¬ (false = true) by decide)] at H; exact H
        clear H
        have H := H1
        clear H1
        have H' := Aside0.mk H
        clear H
        go_wp2
        go_loopg [19] kj1 (fun kq v19 w' => ∃ (x19_2 : Int), v19 = .int .i64 x19_2 ∧ Aside0 (field_ValidName.l0 kq a0 (a0.size : Int) x19_2 = some r) ∧ Aside0 (kq ≤ kj1) ∧ Drawn0 w w')
        case atStart => exact ⟨(0), (by first | rfl | (simp; done) | (simp [*]; done)), H', ⟨Nat.le_refl _⟩, by repeat (first | exact Drawn0.refl _ | apply Drawn0.step)⟩
        case round =>
          clear H'
          try clear c1
          try clear p2
          try clear c3
          try clear c3b0
          try clear c3b1
          try clear c4
          try clear c4b0
          try clear c4b1
          try clear c5
          try clear c5b0
          try clear c5b1
          try clear p6
          try clear q6
          try clear hx6
          try clear qi6
          try clear c8
          try clear p2
          try clear p6
          try clear q6
          obtain ⟨x19_2, rfl, HA, HK2, ⟨m2, rfl⟩⟩ := hrel
          cases gk with
          | zero => exact absurd HA.out (by simp [field_ValidName.l0])
          | succ k2 =>
            have H := HA.out
            clear HA
            simp only [field_ValidName.l0] at H
            by_cases c9 : x19_2 < (a0.size : Int)
            · rw [if_pos c9] at H
              have c9b0 : decide (x19_2 < (a0.size : Int)) = true := decide_eq_true c9
              clear c9
              by_cases c10 : 0 ≤ x19_2
              · rw [if_pos c10] at H
                have c10b0 : decide (0 ≤ x19_2) = true := decide_eq_true c10
                clear c10
                by_cases c11 : x19_2 < (a0.size : Int)
                · rw [if_pos c11] at H
                  have c11b0 : decide (x19_2 < (a0.size : Int)) = true := decide_eq_true c11
                  clear c11
                  replace H := Option.bind_eq_some_iff.mp H
                  obtain ⟨t104, A130, H⟩ := H
                  replace H : (if t104 = true then (field_ValidName.l0 k2 a0 (a0.size : Int) (wrap64 (x19_2 + 1))) else ((ascii_IsDigit.f (bt a0 x19_2)).bind fun t105 => (if t105 = true then (field_ValidName.l0 k2 a0 (a0.size : Int) (wrap64 (x19_2 + 1))) else (if (bt a0 x19_2) = 45 then (field_ValidName.l0 k2 a0 (a0.size : Int) (wrap64 (x19_2 + 1))) else (some false))))) = some r := H
                  have A13 := Aside0.mk A130
                  clear A130
                  by_cases c14 : t104 = true
                  · subst c14
                    have H1 : (field_ValidName.l0 k2 a0 (a0.size : Int) (wrap64 (x19_2 + 1))) = some r := by rw [if_pos rfl] at H; exact H
                    clear H
                    have H := H1
                    clear H1
                    have H' := Aside0.mk H
                    clear H
                    have p12 : 0 ≤ (x19_2 : Int) := of_decide_eq_true (by first | (with_reducible assumption) | assumption)
                    have q12 : x19_2 < (a0.size : Int) := of_decide_eq_true (by first | (with_reducible assumption) | assumption)
                    have hx12 := bt_at a0 x19_2
                    replace p12 := eq_true p12
                    replace q12 := eq_true q12
                    go_wp2_with (first | ((with_reducible refine gate_callee (f := 37) rfl ?_); refine goesL_ (some 25) rfl rfl Try.func37 (by kernel_rfl) rfl #[.int .u8 (bt a0 x19_2)] rfl (by (try simp only [List.map_toArray, List.map_cons, List.map_nil]); first | done | rfl | (simp only [List.length_drop, List.length_take]; rfl)) ?_; (with_reducible refine (ascii_IsLetter.calls (bt a0 x19_2) true _ A13.out).mono ?_); rintro e w' ⟨rfl, ⟨nd, rfl⟩⟩; refine ⟨_, rfl, ?_⟩))
                    go_roundg k2
                    case measure => have := HJ1.out; have := HK2.out; omega
                    case rel => exact ⟨(wrap64 (x19_2 + 1)), (by first | rfl | (simp; done) | (simp [*]; done)), H', ⟨by have := HJ1.out; have := HK2.out; omega⟩, by repeat (first | exact Drawn0.refl _ | apply Drawn0.step)⟩
                  · replace c14 := Bool.eq_false_iff.mpr c14
                    subst c14
                    have H1 : ((ascii_IsDigit.f (bt a0 x19_2)).bind fun t105 => (if t105 = true then (field_ValidName.l0 k2 a0 (a0.size : Int) (wrap64 (x19_2 + 1))) else (if (bt a0 x19_2) = 45 then (field_ValidName.l0 k2 a0 (a0.size : Int) (wrap64 (x19_2 + 1))) else (some false)))) = some r := by rw [if_neg (show ¬ (false = true) by decide)] at H; exact H
                    clear H
                    have H := H1
                    clear H1
                    replace H := Option.bind_eq_some_iff.mp H
                    obtain ⟨t105, A160, H⟩ := H
                    replace H : (if t105 = true then (field_ValidName.l0 k2 a0 (a0.size : Int) (wrap64 (x19_2 + 1))) else (if (bt a0 x19_2) = 45 then (field_ValidName.l0 k2 a0 (a0.size : Int) (wrap64 (x19_2 + 1))) else (some false))) = some r := H
                    have A16 := Aside0.mk A160
                    clear A160
                    by_cases c17 : t105 = true
                    · subst c17
                      have H1 : (field_ValidName.l0 k2 a0 (a0.size : Int) (wrap64 (x19_2 + 1))) = some r := by rw [if_pos rfl] at H; exact H
                      clear H
                      have H := H1
                      clear H1
                      have H' := Aside0.mk H
                      clear H
                      have p12 : 0 ≤ (x19_2 : Int) := of_decide_eq_true (by first | (with_reducible assumption) | assumption)
                      have q12 : x19_2 < (a0.size : Int) := of_decide_eq_true (by first | (with_reducible assumption) | assumption)
                      have hx12 := bt_at a0 x19_2
                      replace p12 := eq_true p12
                      replace q12 := eq_true q12
                      go_wp2_with (first | ((with_reducible refine gate_callee (f := 37) rfl ?_); refine goesL_ (some 25) rfl rfl Try.func37 (by kernel_rfl) rfl #[.int .u8 (bt a0 x19_2)] rfl (by (try simp only [List.map_toArray, List.map_cons, List.map_nil]); first | done | rfl | (simp only [List.length_drop, List.length_take]; rfl)) ?_; (with_reducible refine (ascii_IsLetter.calls (bt a0 x19_2) false _ A13.out).mono ?_); rintro e w' ⟨rfl, ⟨nd, rfl⟩⟩; refine ⟨_, rfl, ?_⟩; have p15 : 0 ≤ (x19_2 : Int) := of_decide_eq_true (by first | (with_reducible assumption) | assumption); have q15 : x19_2 < (a0.size : Int) := of_decide_eq_true (by first | (with_reducible assumption) | assumption); have hx15 := bt_at a0 x19_2; replace p15 := eq_true p15; replace q15 := eq_true q15) | (go_at_call 38; (with_reducible refine (ascii_IsDigit.calls (bt a0 x19_2) true _ A16.out).mono ?_); rintro e w' ⟨rfl, ⟨nd, rfl⟩⟩))
                      go_roundg k2
                      case measure => have := HJ1.out; have := HK2.out; omega
                      case rel => exact ⟨(wrap64 (x19_2 + 1)), (by first | rfl | (simp; done) | (simp [*]; done)), H', ⟨by have := HJ1.out; have := HK2.out; omega⟩, by repeat (first | exact Drawn0.refl _ | apply Drawn0.step)⟩
                    · replace c17 := Bool.eq_false_iff.mpr c17
                      subst c17
                      have H1 : (if (bt a0 x19_2) = 45 then (field_ValidName.l0 k2 a0 (a0.size : Int) (wrap64 (x19_2 + 1))) else (some false)) = some r := by rw [if_neg (show ¬ (false = true) by decide)] at H; exact H
                      clear H
                      have H := H1
                      clear H1
                      by_cases c19 : (bt a0 x19_2) = 45
                      · rw [if_pos c19] at H
                        have c19b0 : ((bt a0 x19_2) == 45) = true := beq_iff_eq.mpr c19
                        have c19b1 : ((bt a0 x19_2) != 45) = false := bne_eq_false_iff_eq.mpr c19
                        clear c19
                        have H' := Aside0.mk H
                        clear H
                        have p12 : 0 ≤ (x19_2 : Int) := of_decide_eq_true (by first | (with_reducible assumption) | assumption)
                        have q12 : x19_2 < (a0.size : Int) := of_decide_eq_true (by first | (with_reducible assumption) | assumption)
                        have hx12 := bt_at a0 x19_2
                        replace p12 := eq_true p12
                        replace q12 := eq_true q12
                        go_wp2_with (first | ((with_reducible refine gate_callee (f := 37) rfl ?_); refine goesL_ (some 25) rfl rfl Try.func37 (by kernel_rfl) rfl #[.int .u8 (bt a0 x19_2)] rfl (by (try simp only [List.map_toArray, List.map_cons, List.map_nil]); first | done | rfl | (simp only [List.length_drop, List.length_take]; rfl)) ?_; (with_reducible refine (ascii_IsLetter.calls (bt a0 x19_2) false _ A13.out).mono ?_); rintro e w' ⟨rfl, ⟨nd, rfl⟩⟩; refine ⟨_, rfl, ?_⟩; have p15 : 0 ≤ (x19_2 : Int) := of_decide_eq_true (by first | (with_reducible assumption) | assumption); have q15 : x19_2 < (a0.size : Int) := of_decide_eq_true (by first | (with_reducible assumption) | assumption); have hx15 := bt_at a0 x19_2; replace p15 := eq_true p15; replace q15 := eq_true q15) | (go_at_call 38; (with_reducible refine (ascii_IsDigit.calls (bt a0 x19_2) false _ A16.out).mono ?_); rintro e w' ⟨rfl, ⟨nd, rfl⟩⟩; have p18 : 0 ≤ (x19_2 : Int) := of_decide_eq_true (by first | (with_reducible assumption) | assumption); have q18 : x19_2 < (a0.size : Int) := of_decide_eq_true (by first | (with_reducible assumption) | assumption); have hx18 := bt_at a0 x19_2; replace p18 := eq_true p18; replace q18 := eq_true q18))
                        go_roundg k2
                        case measure => have := HJ1.out; have := HK2.out; omega
                        case rel => exact ⟨(wrap64 (x19_2 + 1)), (by first | rfl | (simp; done) | (simp [*]; done)), H', ⟨by have := HJ1.out; have := HK2.out; omega⟩, by repeat (first | exact Drawn0.refl _ | apply Drawn0.step)⟩
                      · rw [if_neg c19] at H
                        have c19b0 : ((bt a0 x19_2) == 45) = false := beq_eq_false_iff_ne.mpr c19
                        have c19b1 : ((bt a0 x19_2) != 45) = true := bne_iff_ne.mpr c19
                        obtain rfl := Option.some.inj H
                        have p12 : 0 ≤ (x19_2 : Int) := of_decide_eq_true (by first | (with_reducible assumption) | assumption)
                        have q12 : x19_2 < (a0.size : Int) := of_decide_eq_true (by first | (with_reducible assumption) | assumption)
                        have hx12 := bt_at a0 x19_2
                        replace p12 := eq_true p12
                        replace q12 := eq_true q12
                        go_wp2_with (first | ((with_reducible refine gate_callee (f := 37) rfl ?_); refine goesL_ (some 25) rfl rfl Try.func37 (by kernel_rfl) rfl #[.int .u8 (bt a0 x19_2)] rfl (by (try simp only [List.map_toArray, List.map_cons, List.map_nil]); first | done | rfl | (simp only [List.length_drop, List.length_take]; rfl)) ?_; (with_reducible refine (ascii_IsLetter.calls (bt a0 x19_2) false _ A13.out).mono ?_); rintro e w' ⟨rfl, ⟨nd, rfl⟩⟩; refine ⟨_, rfl, ?_⟩; have p15 : 0 ≤ (x19_2 : Int) := of_decide_eq_true (by first | (with_reducible assumption) | assumption); have q15 : x19_2 < (a0.size : Int) := of_decide_eq_true (by first | (with_reducible assumption) | assumption); have hx15 := bt_at a0 x19_2; replace p15 := eq_true p15; replace q15 := eq_true q15) | (go_at_call 38; (with_reducible refine (ascii_IsDigit.calls (bt a0 x19_2) false _ A16.out).mono ?_); rintro e w' ⟨rfl, ⟨nd, rfl⟩⟩; have p18 : 0 ≤ (x19_2 : Int) := of_decide_eq_true (by first | (with_reducible assumption) | assumption); have q18 : x19_2 < (a0.size : Int) := of_decide_eq_true (by first | (with_reducible assumption) | assumption); have hx18 := bt_at a0 x19_2; replace p18 := eq_true p18; replace q18 := eq_true q18))
                        go_ret
                        exact ⟨by first | rfl | (simp; done) | (simp [*]; done), by repeat (first | exact Drawn0.refl _ | apply Drawn0.step)⟩
                · rw [if_neg c11] at H
                  exact absurd H (by simp)
              · rw [if_neg c10] at H
                exact absurd H (by simp)
            · rw [if_neg c9] at H
              have c9b0 : decide (x19_2 < (a0.size : Int)) = false := decide_eq_false c9
              clear c9
              obtain rfl := Option.some.inj H
              go_wp2
              go_ret
              exact ⟨by first | rfl | (simp; done) | (simp [*]; done), by repeat (first | exact Drawn0.refl _ | apply Drawn0.step)⟩

-- NOT PRINTED: function 70 (ascii_span)

/-! ### ascii_IsBlank: function 75 -/
def ascii_IsBlank.f (a0 : Int) : Option (Bool) := if a0 = 32 then (some true) else (some (a0 == 9))
set_option maxHeartbeats 8000000 in
set_option maxRecDepth 100000 in
theorem ascii_IsBlank.calls (a0 : Int) (r : Bool) (w : World) (h : ascii_IsBlank.f a0 = some r) :
    Calls Try.prog 75 #[.int .u8 a0] w fun e w' => e = .returned (.bool r) ∧ Drawn0 w w' := by
  have H : (if a0 = 32 then (some true) else (some (a0 == 9))) = some r := h
  clear h
  by_cases c2 : a0 = 32
  · rw [if_pos c2] at H
    have c2b0 : (a0 == 32) = true := beq_iff_eq.mpr c2
    have c2b1 : (a0 != 32) = false := bne_eq_false_iff_eq.mpr c2
    clear c2
    obtain rfl := Option.some.inj H
    go_enter Try.func75, Try.ntmps75
    go_wp2
    go_ret
    exact ⟨by first | rfl | (simp; done) | (simp [*]; done), by repeat (first | exact Drawn0.refl _ | apply Drawn0.step)⟩
  · rw [if_neg c2] at H
    have c2b0 : (a0 == 32) = false := beq_eq_false_iff_ne.mpr c2
    have c2b1 : (a0 != 32) = true := bne_iff_ne.mpr c2
    obtain rfl := Option.some.inj H
    go_enter Try.func75, Try.ntmps75
    go_wp2
    go_ret
    exact ⟨by first | rfl | (simp; done) | (simp [*]; done), by repeat (first | exact Drawn0.refl _ | apply Drawn0.step)⟩

-- NOT PRINTED: function 82 (ascii_not)

-- NOT PRINTED: function 67 (ascii_each)

-- NOT PRINTED: function 42 (ascii_Words)

-- NOT PRINTED: function 47 (ascii_Printable)

-- NOT PRINTED: function 83 (abi_NoEscape)

-- NOT PRINTED: function 69 (strings_Builder_copyCheck)

-- NOT PRINTED: function 43 (strings_Builder_WriteString)

-- NOT PRINTED: function 44 (strings_Builder_String)

-- NOT PRINTED: function 89 (bytealg_MakeNoZero)

-- NOT PRINTED: function 84 (strings_Builder_grow)

-- NOT PRINTED: function 73 (strings_Builder_Grow)

-- NOT PRINTED: function 48 (strings_Join)

-- NOT PRINTED: function 49 (field_some)

/-! ### field_long: function 50 -/
def field_long.f (a0 : ByteArray) : Option (Bool) := some (decide ((a0.size : Int) > 900))
set_option maxHeartbeats 8000000 in
set_option maxRecDepth 100000 in
theorem field_long.calls (a0 : ByteArray) (r : Bool) (w : World) (h : field_long.f a0 = some r) :
    Calls Try.prog 50 #[.string a0] w fun e w' => e = .returned (.bool r) ∧ Drawn0 w w' := by
  have H : (some (decide ((a0.size : Int) > 900))) = some r := h
  clear h
  obtain rfl := Option.some.inj H
  go_enter Try.func50, Try.ntmps50
  go_wp2
  go_ret
  exact ⟨by first | rfl | (simp; done) | (simp [*]; done), by repeat (first | exact Drawn0.refl _ | apply Drawn0.step)⟩

-- NOT PRINTED: function 17 (field_Field_Check)

-- NOT PRINTED: function 15 (field_Field_Fold)

-- NOT PRINTED: function 52 (strings_Builder_Len)

-- NOT PRINTED: function 20 (field_Print)

/-! ### ascii_IsVisible: function 72 -/
def ascii_IsVisible.f (a0 : Int) : Option (Bool) := if a0 ≥ 33 then (some (decide (a0 ≤ 126))) else (some false)
set_option maxHeartbeats 8000000 in
set_option maxRecDepth 100000 in
theorem ascii_IsVisible.calls (a0 : Int) (r : Bool) (w : World) (h : ascii_IsVisible.f a0 = some r) :
    Calls Try.prog 72 #[.int .u8 a0] w fun e w' => e = .returned (.bool r) ∧ Drawn0 w w' := by
  have H : (if a0 ≥ 33 then (some (decide (a0 ≤ 126))) else (some false)) = some r := h
  clear h
  by_cases c2 : a0 ≥ 33
  · rw [if_pos c2] at H
    have c2b0 : decide (33 ≤ a0) = true := decide_eq_true c2
    clear c2
    obtain rfl := Option.some.inj H
    go_enter Try.func72, Try.ntmps72
    go_wp2
    go_ret
    exact ⟨by first | rfl | (simp; done) | (simp [*]; done), by repeat (first | exact Drawn0.refl _ | apply Drawn0.step)⟩
  · rw [if_neg c2] at H
    have c2b0 : decide (33 ≤ a0) = false := decide_eq_false c2
    clear c2
    obtain rfl := Option.some.inj H
    go_enter Try.func72, Try.ntmps72
    go_wp2
    go_ret
    exact ⟨by first | rfl | (simp; done) | (simp [*]; done), by repeat (first | exact Drawn0.refl _ | apply Drawn0.step)⟩

-- NOT PRINTED: function 90 (bytealg_IndexByteString)

-- NOT PRINTED: function 85 (stringslite_IndexByte)

-- NOT PRINTED: function 76 (strings_IndexByte)

/-- A state of type 79 at block g of W; what its slices lead to came in by w0. -/
def IsS79 (w0 W : World) (g : Nat) (f0 : ByteArray) (f1 : Int) (f2 : List (S28)) (f3 : Int) (f4 : Int) : Prop := ∃ A2 c2, W.heap[g]? = some (.cells #[.string f0, .int .i64 f1, .slice A2 f2.length c2, .int .i64 f3, .int .i64 f4] 79 (0, 0)) ∧ w0.heap.size ≤ g ∧ Kd.C k28 w0 A2 f2.length f2
theorem IsS79.grown {w0 W : World} {g : Nat} {f0 : ByteArray} {f1 : Int} {f2 : List (S28)} {f3 : Int} {f4 : Int} {W1 : World} {row : Option Nat} (h : IsS79 w0 W g f0 f1 f2 f3 f4) (hw : W.grownBy W1 row) (hne : some g ≠ row) : IsS79 w0 W1 g f0 f1 f2 f3 f4 := by
  obtain ⟨A2, c2, hb, hg, hr2⟩ := h
  exact ⟨A2, c2, blk_grown hb hw hne, hg, hr2⟩
theorem IsS79.below {w0 W : World} {g : Nat} {f0 : ByteArray} {f1 : Int} {f2 : List (S28)} {f3 : Int} {f4 : Int} {W1 : World} (h : IsS79 w0 W g f0 f1 f2 f3 f4) (hw : Below W.heap.size W W1) : IsS79 w0 W1 g f0 f1 f2 f3 f4 := h.grown (grown_of_below hw none) (by simp)
theorem IsS79.alloc {w0 W : World} {g : Nat} {f0 : ByteArray} {f1 : Int} {f2 : List (S28)} {f3 : Int} {f4 : Int} (h : IsS79 w0 W g f0 f1 f2 f3 f4) (o : Obj) : IsS79 w0 (W.alloc o) g f0 f1 f2 f3 f4 := h.below (below_alloc (Below.refl _ _) o)
theorem IsS79.drewN {w0 W : World} {g : Nat} {f0 : ByteArray} {f1 : Int} {f2 : List (S28)} {f3 : Int} {f4 : Int} (h : IsS79 w0 W g f0 f1 f2 f3 f4) (m : Nat) : IsS79 w0 (W.drewN m) g f0 f1 f2 f3 f4 := h
theorem IsS79.drew {w0 W : World} {g : Nat} {f0 : ByteArray} {f1 : Int} {f2 : List (S28)} {f3 : Int} {f4 : Int} (h : IsS79 w0 W g f0 f1 f2 f3 f4) : IsS79 w0 W.drew g f0 f1 f2 f3 f4 := h
theorem IsS79.at_ {w0 W : World} {g : Nat} {f0 : ByteArray} {f1 : Int} {f2 : List (S28)} {f3 : Int} {f4 : Int} {w' : World} {m : Nat} (hq : W.drewN m = w') (h : IsS79 w0 W g f0 f1 f2 f3 f4) : IsS79 w0 w' g f0 f1 f2 f3 f4 := by subst hq; exact IsS79.drewN h m
/-! ### field_parser_fail: function 77 -/
-- NOT PRINTED: function 74 (field_parser_line)

-- NOT PRINTED: function 93 (bytealg_IndexString)

-- NOT PRINTED: function 94 (bytealg_Cutover)

-- NOT PRINTED: function 95 (bytealg_IndexRabinKarp_string)

-- NOT PRINTED: function 91 (stringslite_Index)

-- NOT PRINTED: function 86 (strings_Index)

-- NOT PRINTED: function 78 (field_parser_body)

-- NOT PRINTED: function 53 (field_parser_one)

-- NOT PRINTED: function 23 (field_Parse)

-- NOT PRINTED: function 11 (bulletinlaw09_known)

/-! ### bulletinref01_Lowercase: function 39 -/
/-! ### bulletinref01_Uppercase: function 40 -/
def bulletinref01_Uppercase.f (a0 : Int) : Option (Bool) := if a0 ≥ 65 then (some (decide (a0 ≤ 90))) else (some false)
set_option maxHeartbeats 8000000 in
set_option maxRecDepth 100000 in
theorem bulletinref01_Uppercase.calls (a0 : Int) (r : Bool) (w : World) (h : bulletinref01_Uppercase.f a0 = some r) :
    Calls Try.prog 40 #[.int .u8 a0] w fun e w' => e = .returned (.bool r) ∧ Drawn0 w w' := by
  have H : (if a0 ≥ 65 then (some (decide (a0 ≤ 90))) else (some false)) = some r := h
  clear h
  by_cases c2 : a0 ≥ 65
  · rw [if_pos c2] at H
    have c2b0 : decide (65 ≤ a0) = true := decide_eq_true c2
    clear c2
    obtain rfl := Option.some.inj H
    go_enter Try.func40, Try.ntmps40
    go_wp2
    go_ret
    exact ⟨by first | rfl | (simp; done) | (simp [*]; done), by repeat (first | exact Drawn0.refl _ | apply Drawn0.step)⟩
  · rw [if_neg c2] at H
    have c2b0 : decide (65 ≤ a0) = false := decide_eq_false c2
    clear c2
    obtain rfl := Option.some.inj H
    go_enter Try.func40, Try.ntmps40
    go_wp2
    go_ret
    exact ⟨by first | rfl | (simp; done) | (simp [*]; done), by repeat (first | exact Drawn0.refl _ | apply Drawn0.step)⟩

/-! ### bulletinref01_Digit: function 41 -/
end Go.Proofs.Ytfeciafdioepiaa.PA
