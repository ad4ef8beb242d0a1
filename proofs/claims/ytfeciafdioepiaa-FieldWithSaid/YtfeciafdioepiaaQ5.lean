/- Plain: To. -/
import Derived.Test.YtfeciafdioepiaaQ4
import Derived.Test.YtfeciafdioepiaaPAd
set_option linter.unusedVariables false
set_option linter.unusedSimpArgs false
namespace Go.Proofs.Ytfeciafdioepiaa
open Go.RowKit Go.Proofs Go.Proofs.YtfeciafdioepiaaW.PrintWords Go.Proofs.Ytfeciafdioepiaa.PA

theorem To_loop (l : List S25) (hl : l.length ≤ 70) : ∀ d i : Nat, l.length - i = d → i ≤ l.length → Ev (fun k => bulletinlaw09_To.l0 k l ((l.take i).map sTo) (i : Int)) (l.map sTo) := by
  intro d
  induction d with
  | zero =>
    intro i hd hi
    refine Ev.next ?_
    simp only [bulletinlaw09_To.l0]
    refine Ev.ite_neg (by omega) (Ev.const ?_)
    rw [List.take_of_length_le (by omega)]
  | succ d ih =>
    intro i hd hi
    have hlt : i < l.length := by omega
    have hw := wrap_nat i (by omega)
    refine Ev.next ?_
    simp only [bulletinlaw09_To.l0]
    rw [rd25 l i hlt, hw]
    clear hw
    refine Ev.ite_pos (by omega) (Ev.ite_pos (by omega) (Ev.ite_pos (by omega) (Ev.ite_pos (by rw [List.length_map, List.length_take]; omega) ?_)))
    have := ih (i + 1) (by omega) (by omega)
    rw [List.take_succ_eq_append_getElem hlt, List.map_append] at this
    exact this
theorem ToF (l : List S25) (hl : l.length ≤ 70) : Ev (fun k => bulletinlaw09_To.f k l) (l.map sTo) := To_loop l hl _ 0 rfl (by omega)
end Go.Proofs.Ytfeciafdioepiaa
