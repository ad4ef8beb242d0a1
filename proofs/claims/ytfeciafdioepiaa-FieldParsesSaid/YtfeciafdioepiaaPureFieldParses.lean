/- Plain: the law of the parsing. -/
import Derived.Test.YtfeciafdioepiaaP7
import Derived.Test.YtfeciafdioepiaaP4o
import Derived.Test.YtfeciafdioepiaaPC3
set_option linter.unusedVariables false
set_option linter.unusedSimpArgs false
namespace Go.Proofs.Ytfeciafdioepiaa
open Go.RowKit Go.Proofs Go.Proofs.YtfeciafdioepiaaW.PrintWords Go.Proofs.Ytfeciafdioepiaa.PA

theorem toR_toS (fs : List Fld) : (fs.map toS).map sOf = fs.map toR := by rw [List.map_map]; rfl
theorem FieldParses_pure : PC.bulletinlaw09_FieldParses.Pure := by
  intro a ha
  obtain ⟨l, rfl⟩ : ∃ l, a = mkS l := ⟨a.data.toList, (mkS_data a).symm⟩
  refine Ev.at_ ?_
  unfold PC.bulletinlaw09_FieldParses.f
  have hs := mkS_size l
  have hm : mn ((mkS l).size : Int) 70000 = ((min l.length 70000 : Nat) : Int) := by rw [hs]; exact mn_nat l.length 70000
  rw [hm]
  refine Ev.ite_pos (by omega) (Ev.ite_pos (by omega) ?_)
  rw [Int.toNat_natCast, extract_take]
  have hlen : (l.take (min l.length 70000)).length ≤ 70000 := by rw [List.length_take]; omega
  generalize l.take (min l.length 70000) = t at *
  have hpl := parse_len t
  refine Ev.bind (Ev.const (GParse t (by omega))) (Ev.bind (refParseF t) (Ev.bind (a := true) (Ev.const rfl) (Ev.ite_pos rfl ?_)))
  refine Ev.bind (OfF _ (by rw [List.length_map]; omega)) ?_
  rw [toR_toS]
  refine Ev.bind (SameF _ (by rw [List.length_map]; omega)) (Ev.ite_pos rfl (Ev.ite_pos rfl (Ev.const ?_)))
  simp
end Go.Proofs.Ytfeciafdioepiaa
namespace Go.Proofs.Ytfeciafdioepiaa.Pure
theorem FieldParses : Go.Proofs.Ytfeciafdioepiaa.PC.bulletinlaw09_FieldParses.Pure := Go.Proofs.Ytfeciafdioepiaa.FieldParses_pure
end Go.Proofs.Ytfeciafdioepiaa.Pure
