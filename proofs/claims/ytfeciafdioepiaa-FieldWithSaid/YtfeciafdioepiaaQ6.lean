/- Plain: the reference's is, Without, Get. -/
import Derived.Test.YtfeciafdioepiaaQ1
import Derived.Test.YtfeciafdioepiaaQ4
import Derived.Test.YtfeciafdioepiaaPB3
import Derived.Test.YtfeciafdioepiaaH18
set_option linter.unusedVariables false
set_option linter.unusedSimpArgs false
namespace Go.Proofs.Ytfeciafdioepiaa
open Go.RowKit Go.Proofs Go.Proofs.YtfeciafdioepiaaW.PrintWords Go.Proofs.Ytfeciafdioepiaa.PA

theorem isF (a b : ByteArray) (ha : a.size ≤ 140737488351232) (hb : b.size ≤ 140737488351232) : PB.bulletinref09_is.f a b = some (sameName a b) := by
  have h1 : GV.refLower.f a = some (lowerB a) := by show GV.Lower.f a = _; unfold GV.Lower.f; rw [if_pos ha]
  have h2 : GV.refLower.f b = some (lowerB b) := by show GV.Lower.f b = _; unfold GV.Lower.f; rw [if_pos hb]
  unfold PB.bulletinref09_is.f
  rw [h1, h2]
  simp only [Option.bind_some]
  congr 1
  unfold sameName
  rw [Bool.eq_iff_iff, beq_iff_eq, decide_eq_true_iff, Lib.toList_data, Lib.toList_data]
  constructor
  · intro h; rw [← mkS_data (lowerB a), h, mkS_data]
  · intro h; rw [h]
/-- Names that are small. -/
def smallF (l : List S25) : Prop := l.length ≤ 1000000 ∧ ∀ x ∈ l, x.f0.size ≤ 1000000
theorem refWithout_loop (l : List S25) (hs : smallF l) (n : ByteArray) (hn : n.size ≤ 140737488351232) : ∀ d i : Nat, l.length - i = d → i ≤ l.length →
    Ev (fun k => PB.bulletinref09_Without.l0 k l n ((l.take i).filter fun x => !sameName x.f0 n) (i : Int)) (l.filter fun x => !sameName x.f0 n) := by
  have hl := hs.1
  intro d
  induction d with
  | zero =>
    intro i hd hi
    refine Ev.next ?_
    simp only [PB.bulletinref09_Without.l0]
    refine Ev.ite_neg (by omega) (Ev.const ?_)
    rw [List.take_of_length_le (by omega)]
  | succ d ih =>
    intro i hd hi
    have hlt : i < l.length := by omega
    have hx := hs.2 l[i] (List.getElem_mem hlt)
    have hih := ih (i + 1) (by omega) (by omega)
    rw [List.take_succ_eq_append_getElem hlt, List.filter_append] at hih
    refine Ev.next ?_
    simp only [PB.bulletinref09_Without.l0]
    rw [rd25 l i hlt, isF _ _ (by omega) hn, wrap_nat i (by omega)]
    simp only [Option.bind_some]
    refine Ev.ite_pos (by omega) (Ev.ite_pos (by omega) ?_)
    by_cases h : sameName l[i].f0 n = true
    · refine Ev.ite_pos h ?_
      have e : [l[i]].filter (fun x => !sameName x.f0 n) = [] := by simp [h]
      rw [e, List.append_nil] at hih
      exact hih
    · refine Ev.ite_neg h ?_
      have e : [l[i]].filter (fun x => !sameName x.f0 n) = [l[i]] := by simp [h]
      rw [e] at hih
      have hfl := List.length_filter_le (fun x : S25 => !sameName x.f0 n) (l.take i)
      rw [List.length_take] at hfl
      exact Ev.ite_pos (by omega) hih
theorem refWithoutF (l : List S25) (hs : smallF l) (n : ByteArray) (hn : n.size ≤ 140737488351232) : Ev (fun k => PB.bulletinref09_Without.f k l n) (l.filter fun x => !sameName x.f0 n) := refWithout_loop l hs n hn _ 0 rfl (by omega)
theorem map_filter (l : List S25) (p : S28 → Bool) (q : S25 → Bool) (h : ∀ x, p (sTo x) = q x) : (l.map sTo).filter p = (l.filter q).map sTo := by
  rw [List.filter_map]
  congr 1
  congr 1
  funext x
  exact h x
theorem okF_To (l : List S25) (hs : smallF l) : okF (l.map sTo) = true := by
  unfold okF
  rw [Bool.and_eq_true, decide_eq_true_iff, List.length_map, List.all_eq_true]
  refine ⟨hs.1, fun x hx => ?_⟩
  rw [List.mem_map] at hx
  obtain ⟨y, hy, rfl⟩ := hx
  have := hs.2 y hy
  rw [decide_eq_true_iff]
  show y.f0.size ≤ _
  omega
end Go.Proofs.Ytfeciafdioepiaa
