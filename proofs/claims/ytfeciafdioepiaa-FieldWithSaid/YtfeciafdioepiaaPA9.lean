-- PRINTED by print.py (a twelfth state) out of the translation. Not trusted: Lean checks it.
import Derived.Test.YtfeciafdioepiaaPA0
import Derived.Test.YtfeciafdioepiaaPA2
namespace Go.Proofs.Ytfeciafdioepiaa.PA
open Go.RowKit Go.Proofs.YtfeciafdioepiaaW.PrintWords Go.Proofs.YtfeciafdioepiaaW.PrintLast Go.Proofs.YtfeciafdioepiaaW.PrintMore
attribute [local go_sem] max2_int min2_int max_two min_two max_three min_three max_four min_four   -- for this text's walks alone
set_option linter.unusedVariables false
set_option linter.unusedSimpArgs false

-- NOT PRINTED: function 7 (bulletinlaw09_FieldParses)

-- NOT PRINTED: function 8 (bulletinlaw09_FieldCanonical)

-- NOT PRINTED: function 61 (bulletinref01_Lower)

-- NOT PRINTED: function 56 (bulletinref09_is)

-- NOT PRINTED: function 27 (bulletinref09_Without)

-- NOT PRINTED: function 57 (field_named)

-- NOT PRINTED: function 58 (field_selected)

-- NOT PRINTED: function 28 (field_Without)

-- NOT PRINTED: function 29 (field_With)

-- NOT PRINTED: function 9 (bulletinlaw09_FieldWith)

-- NOT PRINTED: function 30 (field_Get)

-- NOT PRINTED: function 31 (bulletinref09_Get)

/-! ### bulletinref01_Same: function 32 -/
/-! ### ascii_lower: function 80 -/
def ascii_lower.f (a0 : Int) : Option (Int) := (ascii_IsUpper.f a0).bind fun t218 => (if t218 = true then (some ((((a0 + 97) % 256) - 65) % 256)) else (some a0))
set_option maxHeartbeats 8000000 in
set_option maxRecDepth 100000 in
theorem ascii_lower.calls (a0 : Int) (r : Int) (w : World) (h : ascii_lower.f a0 = some r) :
    Calls Try.prog 80 #[.int .u8 a0] w fun e w' => e = .returned (.int .u8 r) ∧ Drawn0 w w' := by
  have H : ((ascii_IsUpper.f a0).bind fun t218 => (if t218 = true then (some ((((a0 + 97) % 256) - 65) % 256)) else (some a0))) = some r := h
  clear h
  replace H := Option.bind_eq_some_iff.mp H
  obtain ⟨t218, A20, H⟩ := H
  replace H : (if t218 = true then (some ((((a0 + 97) % 256) - 65) % 256)) else (some a0)) = some r := H
  have A2 := Aside0.mk A20
  clear A20
  by_cases c3 : t218 = true
  · subst c3
    have H1 : (some ((((a0 + 97) % 256) - 65) % 256)) = some r := by rw [if_pos rfl] at H; exact H
    clear H
    have H := H1
    clear H1
    obtain rfl := Option.some.inj H
    go_enter Try.func80, Try.ntmps80
    go_wp2_with (first | ((with_reducible refine gate_callee (f := 66) rfl ?_); refine goesL_ (some 4) rfl rfl Try.func66 (by kernel_rfl) rfl #[.int .u8 a0] rfl (by (try simp only [List.map_toArray, List.map_cons, List.map_nil]); first | done | rfl | (simp only [List.length_drop, List.length_take]; rfl)) ?_; (with_reducible refine (ascii_IsUpper.calls a0 true _ A2.out).mono ?_); rintro e w' ⟨rfl, ⟨nd, rfl⟩⟩; refine ⟨_, rfl, ?_⟩))
    go_ret
    exact ⟨by first | rfl | (simp; done) | (simp [*]; done), by repeat (first | exact Drawn0.refl _ | apply Drawn0.step)⟩
  · replace c3 := Bool.eq_false_iff.mpr c3
    subst c3
    have H1 : (some a0) = some r := by rw [if_neg (show ¬ (false = true) by decide)] at H; exact H
    clear H
    have H := H1
    clear H1
    obtain rfl := Option.some.inj H
    go_enter Try.func80, Try.ntmps80
    go_wp2_with (first | ((with_reducible refine gate_callee (f := 66) rfl ?_); refine goesL_ (some 4) rfl rfl Try.func66 (by kernel_rfl) rfl #[.int .u8 a0] rfl (by (try simp only [List.map_toArray, List.map_cons, List.map_nil]); first | done | rfl | (simp only [List.length_drop, List.length_take]; rfl)) ?_; (with_reducible refine (ascii_IsUpper.calls a0 false _ A2.out).mono ?_); rintro e w' ⟨rfl, ⟨nd, rfl⟩⟩; refine ⟨_, rfl, ?_⟩))
    go_ret
    exact ⟨by first | rfl | (simp; done) | (simp [*]; done), by repeat (first | exact Drawn0.refl _ | apply Drawn0.step)⟩

-- NOT PRINTED: function 60 (ascii_Lower)

-- NOT PRINTED: function 33 (field_Names)

-- NOT PRINTED: function 34 (bulletinref09_Names)

-- NOT PRINTED: function 35 (field_Unknown)

-- NOT PRINTED: function 36 (bulletinref09_Unknown)

-- NOT PRINTED: function 10 (bulletinlaw09_FieldGets)

end Go.Proofs.Ytfeciafdioepiaa.PA
