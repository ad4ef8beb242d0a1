/- Merged texts: P3c, P3r -/
import Derived.Test.YtfeciafdioepiaaQ1
import Derived.Test.YtfeciafdioepiaaPAc
import Derived.Test.YtfeciafdioepiaaPA0
import Derived.Test.YtfeciafdioepiaaPA2
set_option linter.unusedVariables false
set_option linter.unusedSimpArgs false
/- Plain: what a law cuts off. -/
namespace Go.Proofs.Ytfeciafdioepiaa
open Go.RowKit Go.Proofs Go.Proofs.YtfeciafdioepiaaW.PrintWords Go.Proofs.Ytfeciafdioepiaa.PA

/-! ### cut -/
def cutF (x : S25) : S25 := ⟨mkS (x.f0.data.toList.take 60), mkS (x.f1.data.toList.take 9000)⟩
def cutL (l : List S25) : List S25 := (l.take 70).map cutF
theorem extract_min (s : ByteArray) (m : Nat) : s.extract 0 (((min s.size m : Nat) : Int).toNat) = mkS (s.data.toList.take m) := by
  rw [Int.toNat_natCast, extract_mk, List.drop_zero, Nat.sub_zero]
  congr 1
  have : s.data.toList.length = s.size := by simp
  rw [← this, List.take_eq_take_iff]; omega
theorem cut_loop (l : List S25) : ∀ d i : Nat, min l.length 70 - i = d → i ≤ min l.length 70 →
    Ev (fun k => bulletinlaw09_cut.l0 k l ((l.take i).map cutF) (i : Int)) (cutL l) := by
  intro d
  induction d with
  | zero =>
    intro i hd hi
    refine Ev.next ?_
    simp only [bulletinlaw09_cut.l0]
    have he : cutL l = (l.take i).map cutF := by
      unfold cutL; congr 1
      rw [List.take_eq_take_iff]; omega
    rw [he]
    by_cases h : i < l.length
    · exact Ev.ite_pos (by omega) (Ev.ite_neg (by omega) (Ev.const rfl))
    · exact Ev.ite_neg (by omega) (Ev.const rfl)
  | succ d ih =>
    intro i hd hi
    have hlt : i < l.length := by omega
    have hw := wrap_nat i (by omega)
    refine Ev.next ?_
    simp only [bulletinlaw09_cut.l0]
    have hm1 : mn ((l[i].f0.size : Nat) : Int) 60 = ((min l[i].f0.size 60 : Nat) : Int) := mn_nat _ 60
    have hm2 : mn ((l[i].f1.size : Nat) : Int) 9000 = ((min l[i].f1.size 9000 : Nat) : Int) := mn_nat _ 9000
    rw [rd25 l i hlt, hw, hm1, hm2, extract_min, extract_min]
    refine Ev.ite_pos (by omega) (Ev.ite_pos (by omega) (Ev.ite_pos (by omega) (Ev.ite_pos (by omega) (Ev.ite_pos (by omega) (Ev.ite_pos (by omega) (Ev.ite_pos (by omega) (Ev.ite_pos (by simp; omega) ?_)))))))
    have := ih (i + 1) (by omega) (by omega)
    rw [List.take_succ_eq_append_getElem hlt, List.map_append] at this
    exact this
theorem cutLF (l : List S25) : Ev (fun k => bulletinlaw09_cut.f k l) (cutL l) := cut_loop l _ 0 rfl (by omega)

end Go.Proofs.Ytfeciafdioepiaa

/- Plain: Check and Fold of the reference. -/
namespace Go.Proofs.Ytfeciafdioepiaa
open Go.RowKit Go.Proofs Go.Proofs.YtfeciafdioepiaaW.PrintWords Go.Proofs.Ytfeciafdioepiaa.PA

end Go.Proofs.Ytfeciafdioepiaa
