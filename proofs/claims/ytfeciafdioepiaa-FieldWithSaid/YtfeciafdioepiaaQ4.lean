/- Plain: Of and Same. -/
import Derived.Test.YtfeciafdioepiaaQ1
import Derived.Test.YtfeciafdioepiaaPA6
set_option linter.unusedVariables false
set_option linter.unusedSimpArgs false
namespace Go.Proofs.Ytfeciafdioepiaa
open Go.RowKit Go.Proofs Go.Proofs.YtfeciafdioepiaaW.PrintWords Go.Proofs.Ytfeciafdioepiaa.PA

def sTo (x : S25) : S28 := ⟨x.f0, x.f1⟩
def sOf (x : S28) : S25 := ⟨x.f0, x.f1⟩
theorem Of_loop (l : List S28) (hl : l.length ≤ 1000000) : ∀ d i : Nat, l.length - i = d → i ≤ l.length → Ev (fun k => bulletinlaw09_Of.l0 k l ((l.take i).map sOf) (i : Int)) (l.map sOf) := by
  intro d
  induction d with
  | zero =>
    intro i hd hi
    refine Ev.next ?_
    simp only [bulletinlaw09_Of.l0]
    refine Ev.ite_neg (by omega) (Ev.const ?_)
    rw [List.take_of_length_le (by omega)]
  | succ d ih =>
    intro i hd hi
    have hlt : i < l.length := by omega
    have hw := wrap_nat i (by omega)
    refine Ev.next ?_
    simp only [bulletinlaw09_Of.l0]
    rw [rd28 l i hlt, hw]
    clear hw
    refine Ev.ite_pos (by omega) (Ev.ite_pos (by omega) (Ev.ite_pos (by rw [List.length_map, List.length_take]; omega) ?_))
    have := ih (i + 1) (by omega) (by omega)
    rw [List.take_succ_eq_append_getElem hlt, List.map_append] at this
    exact this
theorem OfF (l : List S28) (hl : l.length ≤ 1000000) : Ev (fun k => bulletinlaw09_Of.f k l) (l.map sOf) := Of_loop l hl _ 0 rfl (by omega)
theorem Same_loop (l : List S25) (hl : l.length ≤ 1000000) : ∀ d i : Nat, l.length - i = d → i ≤ l.length → Ev (fun k => bulletinref09_Same.l0 k l l (i : Int)) true := by
  intro d
  induction d with
  | zero =>
    intro i hd hi
    refine Ev.next ?_
    simp only [bulletinref09_Same.l0]
    exact Ev.ite_neg (by omega) (Ev.const rfl)
  | succ d ih =>
    intro i hd hi
    have hw := wrap_nat i (by omega)
    refine Ev.next ?_
    simp only [bulletinref09_Same.l0]
    rw [hw]
    clear hw
    exact Ev.ite_pos (by omega) (Ev.ite_pos (by omega) (Ev.ite_pos (by omega) (Ev.ite_neg (by simp) (ih (i + 1) (by omega) (by omega)))))
theorem SameF (l : List S25) (hl : l.length ≤ 1000000) : Ev (fun k => bulletinref09_Same.f k l l) true := by
  unfold bulletinref09_Same.f
  exact Ev.ite_pos rfl (Same_loop l hl _ 0 rfl (by omega))

end Go.Proofs.Ytfeciafdioepiaa
