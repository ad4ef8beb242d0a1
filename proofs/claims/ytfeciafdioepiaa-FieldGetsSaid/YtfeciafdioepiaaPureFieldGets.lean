/- Plain: the law of finding fields. -/
import Derived.Test.YtfeciafdioepiaaQ6
import Derived.Test.YtfeciafdioepiaaQ2
import Derived.Test.YtfeciafdioepiaaQ5
import Derived.Test.YtfeciafdioepiaaPB2
import Derived.Test.YtfeciafdioepiaaPD1
set_option linter.unusedVariables false
set_option linter.unusedSimpArgs false
namespace Go.Proofs.Ytfeciafdioepiaa
open Go.RowKit Go.Proofs Go.Proofs.YtfeciafdioepiaaW.PrintWords Go.Proofs.Ytfeciafdioepiaa.PA

theorem namesGo_app : ∀ (xs ys : List S28) (seen : List ByteArray), namesGo (xs ++ ys) seen = namesGo ys (namesGo xs seen)
  | [], _, _ => rfl
  | x :: xs, ys, seen => namesGo_app xs ys _
theorem memB_app (s : ByteArray) (a b : List ByteArray) : memB s (a ++ b) = (memB s a || memB s b) := by unfold memB; rw [List.any_append]
theorem names_mem : ∀ (xs : List S28) (seen : List ByteArray) (s : ByteArray), memB s (namesGo xs seen) = (memB s seen || xs.any fun x => decide (s = lowerB x.f0))
  | [], seen, s => by simp [namesGo]
  | x :: xs, seen, s => by
    unfold namesGo
    rw [names_mem xs]
    rw [List.any_cons]
    by_cases h : memB (lowerB x.f0) seen = true
    · rw [if_pos h]
      by_cases e : s = lowerB x.f0
      · subst e; rw [h]; simp
      · simp [e]
    · rw [if_neg h, memB_app]
      have e1 : memB s [lowerB x.f0] = decide (s = lowerB x.f0) := by simp [memB]
      rw [e1, Bool.or_assoc]
theorem names_len : ∀ (xs : List S28) (seen : List ByteArray), (namesGo xs seen).length ≤ seen.length + xs.length
  | [], seen => by simp [namesGo]
  | x :: xs, seen => by
    unfold namesGo
    have := names_len xs (if memB (lowerB x.f0) seen = true then seen else seen ++ [lowerB x.f0])
    refine Nat.le_trans this ?_
    split <;> simp <;> omega
theorem refNames_loop (l : List S25) (hs : smallF l) : ∀ d i : Nat, l.length - i = d → i ≤ l.length →
    Ev (fun k => PB.bulletinref09_Names.l0 k l (namesGo ((l.take i).map sTo) []) (i : Int)) (namesGo (l.map sTo) []) := by
  have hl := hs.1
  intro d
  induction d with
  | zero =>
    intro i hd hi
    refine Ev.next ?_
    simp only [PB.bulletinref09_Names.l0]
    refine Ev.ite_neg (by omega) (Ev.const ?_)
    rw [List.take_of_length_le (by omega)]
  | succ d ih =>
    intro i hd hi
    have hlt : i < l.length := by omega
    have hx := hs.2 l[i] (List.getElem_mem hlt)
    have hih := ih (i + 1) (by omega) (by omega)
    rw [List.take_succ_eq_append_getElem hlt, List.map_append, namesGo_app] at hih
    have hst : smallF (l.take i) := ⟨by rw [List.length_take]; omega, fun y hy => hs.2 y (List.mem_of_mem_take hy)⟩
    have hmem := names_mem ((l.take i).map sTo) [] (lowerB l[i].f0)
    have hnl := names_len ((l.take i).map sTo) []
    rw [List.length_map, List.length_take] at hnl
    have hit : ((i : Int)).toNat = i := Int.toNat_natCast i
    refine Ev.next ?_
    simp only [PB.bulletinref09_Names.l0]
    rw [rd25 l i hlt, wrap_nat i (by omega), hit]
    refine Ev.ite_pos (by omega) (Ev.ite_pos (by omega) (Ev.ite_pos (by omega) (Ev.bind (refGetF (l.take i) hst l[i].f0 (by omega)) ?_)))
    have hn1 : namesGo [sTo l[i]] (namesGo ((l.take i).map sTo) []) = if memB (lowerB l[i].f0) (namesGo ((l.take i).map sTo) []) = true then namesGo ((l.take i).map sTo) [] else namesGo ((l.take i).map sTo) [] ++ [lowerB l[i].f0] := rfl
    have hm1 : ([l[i]] : List S25).map sTo = [sTo l[i]] := rfl
    rw [hm1, hn1] at hih
    have hany : memB (lowerB l[i].f0) (namesGo ((l.take i).map sTo) []) = (l.take i).any fun y => sameName y.f0 l[i].f0 := by
      rw [hmem, List.any_map]
      have : memB (lowerB l[i].f0) [] = false := rfl
      rw [this, Bool.false_or]
      congr 1
      funext y
      show decide (lowerB l[i].f0 = lowerB y.f0) = sameName y.f0 l[i].f0
      rw [sameName_comm]; rfl
    generalize namesGo ((l.take i).map sTo) [] = seen at *
    by_cases h0 : ((l.take i).filter fun y => sameName y.f0 l[i].f0) = []
    · have hz : (l.take i).any (fun y => sameName y.f0 l[i].f0) = false := by
        rw [List.any_eq_false]
        intro y hy hp
        have : y ∈ (l.take i).filter fun y => sameName y.f0 l[i].f0 := List.mem_filter.2 ⟨hy, hp⟩
        rw [h0] at this
        simp at this
      rw [hz] at hany
      rw [hany, if_neg (by simp)] at hih
      have hL : GV.refLower.f l[i].f0 = some (lowerB l[i].f0) := by show GV.Lower.f _ = _; unfold GV.Lower.f; rw [if_pos (by omega)]
      rw [h0]
      refine Ev.ite_pos rfl (Ev.bind (Ev.const hL) (Ev.ite_pos (by simp at hnl; omega) hih))
    · have hz : (l.take i).any (fun y => sameName y.f0 l[i].f0) = true := by
        obtain ⟨y, hy⟩ := List.exists_mem_of_ne_nil _ h0
        rw [List.any_eq_true]
        exact ⟨y, (List.mem_filter.1 hy).1, (List.mem_filter.1 hy).2⟩
      rw [hz] at hany
      rw [hany, if_pos rfl] at hih
      have hp := List.length_pos_iff.2 h0
      exact Ev.ite_neg (by show ¬ (((l.take i).filter fun y => sameName y.f0 l[i].f0).length : Int) = 0; omega) hih
theorem refNamesF (l : List S25) (hs : smallF l) : Ev (fun k => PB.bulletinref09_Names.f k l) (namesGo (l.map sTo) []) := refNames_loop l hs _ 0 rfl (by omega)
theorem sameS_loop (l : List ByteArray) (hl : l.length ≤ 1000000) : ∀ d i : Nat, l.length - i = d → i ≤ l.length → Ev (fun k => bulletinref01_Same.l0 k l l (i : Int)) true := by
  intro d
  induction d with
  | zero =>
    intro i hd hi
    refine Ev.next ?_
    simp only [bulletinref01_Same.l0]
    exact Ev.ite_neg (by omega) (Ev.const rfl)
  | succ d ih =>
    intro i hd hi
    refine Ev.next ?_
    simp only [bulletinref01_Same.l0]
    rw [wrap_nat i (by omega)]
    exact Ev.ite_pos (by omega) (Ev.ite_pos (by omega) (Ev.ite_pos (by omega) (Ev.ite_pos (by first | trivial | rfl) (ih (i + 1) (by omega) (by omega)))))
theorem sameSF (l : List ByteArray) (hl : l.length ≤ 1000000) : Ev (fun k => bulletinref01_Same.f k l l) true := by
  unfold bulletinref01_Same.f
  exact Ev.ite_pos rfl (sameS_loop l hl _ 0 rfl (by omega))
theorem refUnknown_loop (ns : List ByteArray) (hn : ns.length ≤ 1000000) (hz : ∀ y ∈ ns, y.size ≤ 140737488351232) : ∀ d i : Nat, ns.length - i = d → i ≤ ns.length → ∀ l : List S25, smallF l →
    Ev (fun k => PD.bulletinref09_Unknown.l0 k ns l (i : Int)) (l.filter fun x => !((ns.drop i).any fun y => sameName y x.f0)) := by
  intro d
  induction d with
  | zero =>
    intro i hd hi l hs
    refine Ev.next ?_
    simp only [PD.bulletinref09_Unknown.l0]
    refine Ev.ite_neg (by omega) (Ev.const ?_)
    rw [List.drop_eq_nil_of_le (by omega)]; exact congrArg some (List.filter_eq_self.2 (fun _ _ => rfl)).symm
  | succ d ih =>
    intro i hd hi l hs
    have hlt : i < ns.length := by omega
    have hget : rdOf ByteArray.empty ns (i : Int) = ns[i] := by
      unfold rdOf; rw [Int.toNat_natCast, List.getD_eq_getElem?_getD, List.getElem?_eq_getElem hlt]; rfl
    refine Ev.next ?_
    simp only [PD.bulletinref09_Unknown.l0]
    rw [hget, wrap_nat i (by omega)]
    refine Ev.ite_pos (by omega) (Ev.ite_pos (by omega) (Ev.bind (refWithoutF l hs ns[i] (hz _ (List.getElem_mem hlt))) ?_))
    refine (ih (i + 1) (by omega) (by omega) _ (smallF_filter l hs _)).is ?_
    rw [List.filter_filter, List.drop_eq_getElem_cons hlt]
    congr 1
    funext x
    rw [List.any_cons, Bool.not_or, sameName_comm x.f0 ns[i]]
    exact Bool.and_comm _ _
theorem FieldGets_pure (l : List S25) (a : ByteArray) (ns : List ByteArray) (hz : ∀ y ∈ ns, y.size ≤ 140737488351232) : ∃ k, PD.bulletinlaw09_FieldGets.f k l a ns = some true := by
  refine Ev.at_ ?_
  unfold PD.bulletinlaw09_FieldGets.f
  refine Ev.bind (cutLF l) ?_
  have hsm : smallF (cutL l) := by
    unfold cutL
    refine ⟨by rw [List.length_map, List.length_take]; omega, fun x hx => ?_⟩
    rw [List.mem_map] at hx
    obtain ⟨y, _, rfl⟩ := hx
    show (mkS _).size ≤ 1000000
    rw [mkS_size, List.length_take]; omega
  have hlen : (cutL l).length ≤ 70 := by unfold cutL; rw [List.length_map, List.length_take]; omega
  generalize cutL l = t at *
  have hm2 : mn ((ns.length : Nat) : Int) 20 = ((min ns.length 20 : Nat) : Int) := mn_nat _ 20
  have hm1 : mn ((a.size : Nat) : Int) 100 = ((min a.size 100 : Nat) : Int) := mn_nat _ 100
  rw [hm2, hm1]
  refine Ev.ite_pos (by omega) (Ev.ite_pos (by omega) (Ev.ite_pos (by omega) (Ev.ite_pos (by omega) ?_)))
  rw [extract_min, Int.toNat_natCast]
  have hnz : (mkS (a.data.toList.take 100)).size ≤ 140737488351232 := by rw [mkS_size, List.length_take]; omega
  have hz2 : ∀ y ∈ ns.take (min ns.length 20), y.size ≤ 140737488351232 := fun y hy => hz y (List.mem_of_mem_take hy)
  have hl2 : (ns.take (min ns.length 20)).length ≤ 20 := by rw [List.length_take]; omega
  generalize mkS (a.data.toList.take 100) = n at *
  generalize ns.take (min ns.length 20) = ms at *
  have hok := okF_To t hsm
  have hkn : okN n = true := by unfold okN; rw [decide_eq_true_iff]; exact hnz
  have hkns : okNs ms = true := by
    unfold okNs
    rw [Bool.and_eq_true, decide_eq_true_iff, List.all_eq_true]
    exact ⟨by omega, fun y hy => by unfold okN; rw [decide_eq_true_iff]; exact hz2 y hy⟩
  refine Ev.bind (ToF t hlen) ?_
  have hG : GV.Get.f (t.map sTo) n = some (firstB (t.filter fun x => sameName x.f0 n), ((t.filter fun x => sameName x.f0 n).length : Int)) := by
    unfold GV.Get.f
    rw [if_pos (by rw [hok, hkn]; rfl), map_filter t (fun x => sameName x.f0 n) (fun x => sameName x.f0 n) (fun _ => rfl), List.length_map]
    congr 2
    cases (t.filter fun x => sameName x.f0 n) <;> rfl
  refine Ev.bind (Ev.const hG) (Ev.bind (refGetF t hsm n hnz) (Ev.bind (a := true) (Ev.const rfl) (Ev.ite_pos rfl (Ev.ite_pos rfl (Ev.ite_pos rfl ?_)))))
  have hN : GV.Names.f (t.map sTo) = some (namesGo (t.map sTo) []) := by unfold GV.Names.f; rw [if_pos hok]
  have hnl := names_len (t.map sTo) []
  rw [List.length_map, List.length_nil] at hnl
  refine Ev.bind (Ev.const hN) (Ev.bind (refNamesF t hsm) (Ev.bind (sameSF _ (by omega)) (Ev.ite_pos rfl ?_)))
  have hU : GV.Unknown.f (t.map sTo) ms = some ((t.filter fun x => !(ms.any fun y => sameName y x.f0)).map sTo) := by
    unfold GV.Unknown.f
    rw [if_pos (by rw [hok, hkns]; rfl), map_filter t (fun x => !(ms.any fun y => sameName y x.f0)) (fun x => !(ms.any fun y => sameName y x.f0)) (fun _ => rfl)]
  have hfl := List.length_filter_le (fun x : S25 => !(ms.any fun y => sameName y x.f0)) t
  have hUr : Ev (fun k => PD.bulletinref09_Unknown.f k t ms) (t.filter fun x => !(ms.any fun y => sameName y x.f0)) := refUnknown_loop ms (by omega) hz2 _ 0 rfl (by omega) t hsm
  refine Ev.bind (Ev.const hU) (Ev.bind (OfF _ (by rw [List.length_map]; omega)) (Ev.bind hUr ?_))
  have ho : ∀ q : List S25, (q.map sTo).map sOf = q := by
    intro q
    induction q with
    | nil => rfl
    | cons x q ih => rw [List.map_cons, List.map_cons, ih]; rfl
  rw [ho]
  exact Ev.bind (SameF _ (by omega)) (Ev.const rfl)
end Go.Proofs.Ytfeciafdioepiaa
