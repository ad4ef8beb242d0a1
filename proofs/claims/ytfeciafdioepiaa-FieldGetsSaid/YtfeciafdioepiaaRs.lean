/- A row of strings as an argument, with the strings' sizes. -/
import Derived.Test.YtfeciafdioepiaaRk
set_option linter.unusedVariables false
namespace Go.Proofs.Ytfeciafdioepiaa
open Go.RowKit Go.Proofs Go.Proofs.YtfeciafdioepiaaW.PrintWords Go.Proofs.Ytfeciafdioepiaa.PA
open Go.WideShapes Go.ChangeShapes

theorem weightsAll_mem {H : Type} {P : Program} {e : TypeId} {n : Nat} : ∀ {l : List (DataW H)} {d : DataW H}, d ∈ l → n ∈ d.weights P e → n ∈ DataW.weightsAll P e l
  | [], _, h, _ => by simp at h
  | x :: l, d, h, hn => by
    simp only [DataW.weightsAll, List.mem_append]
    rcases List.mem_cons.1 h with rfl | h
    · exact Or.inl hn
    · exact Or.inr (weightsAll_mem h hn)
theorem open_row9s {H : Type} {enc : TypeId × Value → H} {w : World} {base : Nat} {spare : Nat → Bool} {held : Bool} {ts : List TypeId} {ds : List (DataW H)} (hsz : (DataW.weightsEach Try.prog ts ds).all (· ≤ reachBytes) = true) {j : Nat}
    {a : Option Addr} {len cap : Nat} {d : DataW H} {ps : List MemPlace} (ht : ts[j]? = some 36) (hdj : ds[j]? = some d) (hd : DataW.Trod enc Try.prog w base spare held 36 (.slice a len cap) d ps) :
    ∃ xs : List ByteArray, len = xs.length ∧ Kd.C Kd.string w a xs.length xs ∧ xs.length ≤ cap ∧ (∀ x ∈ xs, x.size ≤ 140737488351232) := by
  obtain ⟨fuel, hf⟩ := hd
  rcases Deep.open_strs Try.underlying36 Try.underlying9 cellsOf9 hf with ⟨hcs, _⟩ | ⟨x, l, c, m, Sx, hcs, _, hl, hm, hmm, hxx, hx⟩
  · simp [Value.cells] at hcs
    obtain ⟨rfl, rfl, rfl⟩ := hcs
    exact ⟨[], rfl, ⟨rfl, by simp, fun h => absurd h (by simp)⟩, by simp, by simp⟩
  · simp [Value.cells] at hcs
    obtain ⟨rfl, rfl, rfl⟩ := hcs
    have hlm : len ≤ m := by rw [hmm]; split <;> omega
    refine ⟨(List.range len).map Sx, by simp, ?_, by simpa using hl, ?_⟩
    · refine ⟨rfl, ?_, fun _ => ⟨x, rfl, fun j p hj => ?_⟩⟩
      · simp only [List.length_map, List.length_range]; unfold maxLen at hm; omega
      · rw [List.getElem?_map, Option.map_eq_some_iff] at hj
        obtain ⟨i, hi, rfl⟩ := hj
        have hjl : j < len := by
          rcases Nat.lt_or_ge j len with h | h
          · exact h
          · rw [List.getElem?_eq_none (by simpa using h)] at hi; cases hi
        rw [List.getElem?_range hjl] at hi
        injection hi with hi
        subst hi
        refine ⟨[.string (Sx j)], rfl, rfl, fun i u hu => ?_⟩
        match i, hu with
        | 0, hu => simp at hu; subst hu; simpa [Kd.string, Kd.scalar] using (hx j (by omega)).1
        | i + 1, hu => simp at hu
    · intro y hy
      rw [List.mem_map] at hy
      obtain ⟨i, hi, rfl⟩ := hy
      simp only [Prod.mk.injEq] at hxx
      have hmem : (Sx i).data.toList.length ∈ d.weights Try.prog 36 := by
        rw [hxx.1]
        simp only [DataW.weights, Try.underlying36, List.mem_cons, List.mem_append]
        refine Or.inr (Or.inl (weightsAll_mem (d := .lit (.string (Sx i).data.toList)) (List.mem_map.2 ⟨i, hi, rfl⟩) (by simp [DataW.weights])))
      have := List.all_eq_true.1 hsz _ (DataW.weights_mem_each ht hdj _ hmem)
      have hle : (Sx i).data.toList.length ≤ reachBytes := by simpa using this
      have e : (Sx i).data.toList.length = (Sx i).size := by simp
      rw [e] at hle
      exact hle
end Go.Proofs.Ytfeciafdioepiaa
