/- The arguments of the rows: a struct of two strings, a row of such structs, a row of strings. -/
import Derived.Test.YtfeciafdioepiaaPA0
import Derived.WalkKit
import Derived.ProofKit
import Derived.OpenShut
import Derived.ShutString
import Derived.ChangeOld
import Derived.Below
import Derived.SizedLaws
import Derived.HandedShaped
import Derived.Deep.SlicePairs
import Derived.Deep.Strs
set_option linter.unusedVariables false
namespace Go.Proofs.Ytfeciafdioepiaa
open Go.RowKit Go.Proofs Go.Proofs.YtfeciafdioepiaaW.PrintWords Go.Proofs.Ytfeciafdioepiaa.PA
open Go.WideShapes Go.ChangeShapes

theorem cellsOf9 : Try.prog.cellsOf 9 = 1 := by kernel_rfl
theorem cellsOf25 : Try.prog.cellsOf 25 = 2 := by kernel_rfl
section
variable {H : Type} {enc : TypeId × Value → H} {w : World} {base : Nat} {spare : Nat → Bool} {held : Bool}

theorem open_pair {r : Reach} {b0 : Nat} {v : Value} {d : DataW H} {ps : List MemPlace} (hval : Value.okWide Try.prog w r b0 25 v) (hd : DataW.Trod enc Try.prog w base spare held 25 v d ps) :
    ∃ a b : ByteArray, v = .agg #[.string a, .string b] ∧ a.size ≤ maxLen ∧ b.size ≤ maxLen := by
  have hu := Try.underlying25
  simp only [Value.okWide, hu] at hval
  obtain ⟨cs, rfl, _, _⟩ := hval
  obtain ⟨fuel, hf⟩ := hd
  obtain ⟨y0, y1, n, _, hl, t0, t1⟩ := trod_struct2 hu hf
  rw [cellsOf25] at hl
  obtain ⟨s0, h0, _, z0⟩ := DataW.trod_string Try.underlying9 t0
  obtain ⟨s1, h1, _, z1⟩ := DataW.trod_string Try.underlying9 t1
  rw [cellsOf9] at h0 h1
  refine ⟨s0, s1, ?_, z0, z1⟩
  have hcs : (Value.agg cs).cells.toList = cs.toList := rfl
  rw [hcs] at h0 h1 hl
  have : cs.toList = [.string s0, .string s1] := by
    match hh : cs.toList, hl, h0, h1 with
    | [u, v], _, h0, h1 => simp_all
  congr 1
  apply Array.toList_inj.1
  rw [this]

theorem open_row25 {a : Option Addr} {len cap : Nat} {d : DataW H} {ps : List MemPlace} (hd : DataW.Trod enc Try.prog w base spare held 26 (.slice a len cap) d ps) :
    ∃ xs : List S25, len = xs.length ∧ Kd.C k25 w a xs.length xs ∧ xs.length ≤ cap ∧ (∀ x ∈ xs, x.f0.size ≤ maxLen ∧ x.f1.size ≤ maxLen) := by
  obtain ⟨fuel, hf⟩ := hd
  rcases Deep.open_slice_pairs Try.underlying26 Try.underlying25 cellsOf25 rfl rfl cellsOf9 cellsOf9 hf with ⟨hcs, _⟩ | ⟨x, l, c, m, n, V0, V1, D0, D1, P0, P1, hcs, _, hl, hm, hmm, _, hx⟩
  · simp [Value.cells] at hcs
    obtain ⟨rfl, rfl, rfl⟩ := hcs
    exact ⟨[], rfl, ⟨rfl, by simp, fun h => absurd h (by simp)⟩, by simp, by simp⟩
  · simp [Value.cells] at hcs
    obtain ⟨rfl, rfl, rfl⟩ := hcs
    have hlm : len ≤ m := by rw [hmm]; split <;> omega
    have each : ∀ i, i < len → ∃ q : S25, w.cell? (x.add (i * 2)) = some (.string q.f0) ∧ w.cell? (x.add (i * 2 + 1)) = some (.string q.f1) ∧ q.f0.size ≤ maxLen ∧ q.f1.size ≤ maxLen := by
      intro i hi
      obtain ⟨h0, h1, t0, t1⟩ := hx i (by omega)
      obtain ⟨s0, e0, _, z0⟩ := DataW.trod_string Try.underlying9 t0
      obtain ⟨s1, e1, _, z1⟩ := DataW.trod_string Try.underlying9 t1
      simp at e0 e1
      exact ⟨⟨s0, s1⟩, by rw [h0, e0], by rw [h1, e1], z0, z1⟩
    have : Inhabited S25 := ⟨z25⟩
    obtain ⟨q, hq⟩ := Deep.choose_lt each
    refine ⟨(List.range len).map q, by simp, ?_, by simpa using hl, ?_⟩
    · refine ⟨rfl, ?_, fun _ => ⟨x, rfl, fun j p hj => ?_⟩⟩
      · simp only [List.length_map, List.length_range]; unfold maxLen at hm; omega
      · rw [List.getElem?_map, Option.map_eq_some_iff] at hj
        obtain ⟨i, hi, rfl⟩ := hj
        have hjl : j < len := by
          rcases Nat.lt_or_ge j len with h | h
          · exact h
          · rw [List.getElem?_eq_none (by simpa using h)] at hi; cases hi
        rw [List.getElem?_range hjl] at hi
        injection hi with hi
        subst hi
        obtain ⟨h0, h1, _, _⟩ := hq j hjl
        refine ⟨[.string (q j).f0, .string (q j).f1], rfl, k25_mk w (q j), fun i u hu => ?_⟩
        match i, hu with
        | 0, hu => simp at hu; subst hu; exact h0
        | 1, hu => simp at hu; subst hu; exact h1
        | i + 2, hu => simp at hu
    · intro y hy
      rw [List.mem_map] at hy
      obtain ⟨i, hi, rfl⟩ := hy
      exact ⟨(hq i (by simpa using hi)).2.2.1, (hq i (by simpa using hi)).2.2.2⟩

end
end Go.Proofs.Ytfeciafdioepiaa
