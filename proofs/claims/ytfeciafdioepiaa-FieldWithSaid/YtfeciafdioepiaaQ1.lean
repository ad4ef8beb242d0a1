/- Merged texts: P1, P2, P3 -/
import Derived.Test.YtfeciafdioepiaaHB
import Derived.Test.YtfeciafdioepiaaPA0
import Derived.Test.YtfeciafdioepiaaPA2
set_option linter.unusedVariables false
set_option linter.unusedSimpArgs false
/- The reference's ValidName as a function on lists. -/
namespace Go.Proofs.Ytfeciafdioepiaa
open Go.RowKit Go.Proofs Go.Proofs.YtfeciafdioepiaaW.PrintWords Go.Proofs.Ytfeciafdioepiaa.PA

theorem mn_nat (a b : Nat) : mn (a : Int) (b : Int) = ((min a b : Nat) : Int) := by unfold mn; split <;> omega
end Go.Proofs.Ytfeciafdioepiaa

/- Plain: what the printed functions of the reference compute, for all large numbers of rounds: Words, Printable, Squeeze, Check, Fold. -/
namespace Go.Proofs.Ytfeciafdioepiaa
open Go.RowKit Go.Proofs Go.Proofs.YtfeciafdioepiaaW.PrintWords Go.Proofs.Ytfeciafdioepiaa.PA

/-- From some number of rounds on. -/
def Ev {α : Type} (f : Nat → Option α) (r : α) : Prop := ∃ K, ∀ k, K ≤ k → f k = some r
section
variable {α β : Type}
theorem Ev.const {o : Option α} {r : α} (h : o = some r) : Ev (fun _ => o) r := ⟨0, fun _ _ => h⟩
theorem Ev.bind {f : Nat → Option α} {g : Nat → α → Option β} {a : α} {r : β} (h : Ev f a) (k : Ev (fun n => g n a) r) : Ev (fun n => (f n).bind (g n)) r := by
  obtain ⟨K, h⟩ := h
  obtain ⟨K', k⟩ := k
  refine ⟨max K K', fun n hn => ?_⟩
  show (f n).bind (g n) = some r
  rw [h n (by omega), Option.bind_some]
  exact k n (by omega)
theorem Ev.ite_pos {c : Prop} [Decidable c] {f g : Nat → Option α} {r : α} (h : c) (k : Ev f r) : Ev (fun n => if c then f n else g n) r := by
  simpa [h] using k
theorem Ev.ite_neg {c : Prop} [Decidable c] {f g : Nat → Option α} {r : α} (h : ¬ c) (k : Ev g r) : Ev (fun n => if c then f n else g n) r := by
  simpa [h] using k
theorem Ev.next {f : Nat → Option α} {r : α} (h : Ev (fun n => f (n + 1)) r) : Ev f r := by
  obtain ⟨K, h⟩ := h
  refine ⟨K + 1, fun n hn => ?_⟩
  obtain ⟨m, rfl⟩ : ∃ m, n = m + 1 := ⟨n - 1, by omega⟩
  exact h m (by omega)
theorem Ev.same {f g : Nat → Option α} {r : α} (h : Ev g r) (e : ∀ n, f n = g n) : Ev f r := by
  obtain ⟨K, h⟩ := h
  exact ⟨K, fun n hn => (e n).trans (h n hn)⟩
theorem Ev.at_ {f : Nat → Option α} {r : α} (h : Ev f r) : ∃ k, f k = some r := by
  obtain ⟨K, h⟩ := h
  exact ⟨K, h K (Nat.le_refl _)⟩
end

theorem wrap_nat (i : Nat) (h : i < 100000000000000) : wrap64 ((i : Int) + 1) = ((i + 1 : Nat) : Int) := by unfold wrap64; omega

theorem rd25 (l : List S25) (i : Nat) (h : i < l.length) : rd_T25 l (i : Int) = l[i] := by
  unfold rd_T25; rw [Int.toNat_natCast, List.getD_eq_getElem?_getD, List.getElem?_eq_getElem h]; rfl
theorem rd28 (l : List S28) (i : Nat) (h : i < l.length) : rd_T28 l (i : Int) = l[i] := by
  unfold rd_T28; rw [Int.toNat_natCast, List.getD_eq_getElem?_getD, List.getElem?_eq_getElem h]; rfl
/-! ### Words -/
/-! ### Printable -/
/-! ### Squeeze -/
end Go.Proofs.Ytfeciafdioepiaa

/- Plain: Check and Fold of the program. -/
namespace Go.Proofs.Ytfeciafdioepiaa
open Go.RowKit Go.Proofs Go.Proofs.YtfeciafdioepiaaW.PrintWords Go.Proofs.Ytfeciafdioepiaa.PA

end Go.Proofs.Ytfeciafdioepiaa
