/- Plain: the law of replacing fields. -/
import Derived.Test.YtfeciafdioepiaaQ6
import Derived.Test.YtfeciafdioepiaaQ2
import Derived.Test.YtfeciafdioepiaaQ5
import Derived.Test.YtfeciafdioepiaaPE3
set_option linter.unusedVariables false
set_option linter.unusedSimpArgs false
namespace Go.Proofs.Ytfeciafdioepiaa
open Go.RowKit Go.Proofs Go.Proofs.YtfeciafdioepiaaW.PrintWords Go.Proofs.Ytfeciafdioepiaa.PA

theorem sOf_sTo (q : List S25) : (q.map sTo).map sOf = q := by
  induction q with
  | nil => rfl
  | cons x q ih => rw [List.map_cons, List.map_cons, ih]; rfl
theorem with_l1 (t : List S25) (ht : t.length ≤ 1000) (n : Nat) (hn : n ≤ 100000) : ∀ d i : Nat, n - i = d → i ≤ n → ∀ b : List S28, b.length = n →
    Ev (fun k => PE.bulletinlaw09_FieldWith.l1 k t (t.map sTo) b (i : Int)) true := by
  intro d
  induction d with
  | zero =>
    intro i hd hi b hb
    refine Ev.next ?_
    simp only [PE.bulletinlaw09_FieldWith.l1]
    refine Ev.ite_neg (by omega) (Ev.bind (a := true) (Ev.const rfl) (Ev.ite_pos rfl (Ev.bind (OfF _ (by rw [List.length_map]; omega)) ?_)))
    rw [sOf_sTo]
    exact Ev.bind (SameF _ (by omega)) (Ev.const rfl)
  | succ d ih =>
    intro i hd hi b hb
    refine Ev.next ?_
    simp only [PE.bulletinlaw09_FieldWith.l1]
    rw [wrap_nat i (by omega)]
    exact Ev.ite_pos (by omega) (Ev.ite_pos (by omega) (ih (i + 1) (by omega) (by omega) _ (by rw [List.length_set]; exact hb)))
theorem with_l0 (t : List S25) (ht : t.length ≤ 1000) (b : List S28) (hb : b.length ≤ 100000) (n : Nat) (hn : n ≤ 100000) : ∀ d i : Nat, n - i = d → i ≤ n → ∀ a : List S28, a.length = n →
    Ev (fun k => PE.bulletinlaw09_FieldWith.l0 k t (t.map sTo) a b (i : Int)) true := by
  intro d
  induction d with
  | zero =>
    intro i hd hi a ha
    refine Ev.next ?_
    simp only [PE.bulletinlaw09_FieldWith.l0]
    exact Ev.ite_neg (by omega) (with_l1 t ht b.length hb _ 0 rfl (by omega) b rfl)
  | succ d ih =>
    intro i hd hi a ha
    refine Ev.next ?_
    simp only [PE.bulletinlaw09_FieldWith.l0]
    rw [wrap_nat i (by omega)]
    exact Ev.ite_pos (by omega) (Ev.ite_pos (by omega) (ih (i + 1) (by omega) (by omega) _ (by rw [List.length_set]; exact ha)))
theorem smallF_cut (l : List S25) : smallF (cutL l) := by
  unfold cutL
  refine ⟨by rw [List.length_map, List.length_take]; omega, fun x hx => ?_⟩
  rw [List.mem_map] at hx
  obtain ⟨y, _, rfl⟩ := hx
  show (mkS _).size ≤ 1000000
  rw [mkS_size, List.length_take]; omega
theorem FieldWith_pure (l : List S25) (a b : ByteArray) : ∃ k, PE.bulletinlaw09_FieldWith.f k l a b = some true := by
  refine Ev.at_ ?_
  unfold PE.bulletinlaw09_FieldWith.f
  refine Ev.bind (cutLF l) ?_
  refine Ev.bind (cutLF [(⟨a, b⟩ : S25)]) ?_
  have hsm := smallF_cut l
  have hs1 := smallF_cut [(⟨a, b⟩ : S25)]
  have hlen : (cutL l).length ≤ 70 := by unfold cutL; rw [List.length_map, List.length_take]; omega
  have e1 : ∃ y : S25, cutL [(⟨a, b⟩ : S25)] = [y] := ⟨_, rfl⟩
  obtain ⟨y, e1⟩ := e1
  rw [e1] at hs1 ⊢
  have hy := hs1.2 y (by simp)
  have hr : rd_T25 [y] 0 = y := rfl
  rw [hr]
  generalize cutL l = t at *
  refine Ev.ite_pos (by simp) (Ev.bind (ToF t hlen) (Ev.bind (refWithoutF t hsm y.f0 (by omega)) ?_))
  have hok := okF_To t hsm
  have hkn : okN y.f0 = true := by unfold okN; rw [decide_eq_true_iff]; omega
  have hW : GV.Without.f (t.map sTo) y.f0 = some ((t.filter fun x => !sameName x.f0 y.f0).map sTo) := by
    unfold GV.Without.f
    rw [if_pos (by rw [hok, hkn]; rfl), map_filter t (fun x => !sameName x.f0 y.f0) (fun x => !sameName x.f0 y.f0) (fun _ => rfl)]
  have hfl := List.length_filter_le (fun x : S25 => !sameName x.f0 y.f0) t
  generalize (t.filter fun x => !sameName x.f0 y.f0) = F at *
  have hWi : PE.field_With.f (t.map sTo) y.f0 y.f1 = some ((F ++ [y]).map sTo) := by
    unfold PE.field_With.f
    rw [hW, Option.bind_some, Option.bind_some, if_pos (by simp; omega), List.map_append]
    rfl
  refine Ev.bind (Ev.const hW) (Ev.bind (Ev.const hWi) (Ev.bind (OfF _ (by rw [List.length_map]; omega)) ?_))
  rw [sOf_sTo]
  refine Ev.bind (SameF _ (by omega)) (Ev.ite_pos rfl (Ev.bind (OfF _ (by rw [List.length_map, List.length_append]; simp; omega)) (Ev.bind (Ev.const rfl) ?_)))
  refine Ev.ite_pos (by simp; omega) (Ev.bind (Ev.const rfl) (Ev.bind (Ev.const rfl) ?_))
  rw [List.nil_append, sOf_sTo]
  refine Ev.ite_pos (by simp; omega) (Ev.bind (SameF _ (by rw [List.length_append]; simp; omega)) ?_)
  refine Ev.next ?_
  simp only [PE.bulletinlaw09_FieldWith.j0]
  refine Ev.ite_neg (by simp) ?_
  exact with_l0 t (by omega) _ (by rw [List.length_map, List.length_append]; simp; omega) _ (by rw [List.length_map]; omega) _ 0 rfl (by omega) _ rfl
end Go.Proofs.Ytfeciafdioepiaa
