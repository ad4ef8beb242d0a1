/- Get, Without, Names, Unknown in the printed form. -/
import Derived.Test.YtfeciafdioepiaaH16
import Derived.Maps.Own
import Derived.Maps.Views
import Derived.StringKeys
set_option linter.unusedVariables false
set_option linter.unusedSimpArgs false
namespace Go.Proofs.Ytfeciafdioepiaa
open Go.RowKit Go.Proofs Go.Proofs.YtfeciafdioepiaaW.PrintWords Go.Proofs.Ytfeciafdioepiaa.PA

/-- Sizes at which the contracts speak. -/
def okF (l : List S28) : Bool := decide (l.length ≤ 1000000) && l.all fun x => decide (x.f0.size ≤ 140737488351232)
theorem okF_len {l : List S28} (h : okF l = true) : l.length ≤ 1000000 := by unfold okF at h; simp at h; exact h.1
theorem okF_size {l : List S28} (h : okF l = true) : ∀ x ∈ l, x.f0.size ≤ 140737488351232 := by unfold okF at h; simp at h; exact h.2
def okN (n : ByteArray) : Bool := decide (n.size ≤ 140737488351232)
theorem okN_size {n : ByteArray} (h : okN n = true) : n.size ≤ 140737488351232 := by unfold okN at h; simpa using h
def GV.Without.f (l : List S28) (n : ByteArray) : Option (List S28) := if (okF l && okN n) = true then some (l.filter fun x => !sameName x.f0 n) else none
theorem GV.Without.calls (A0 : Option Addr) (c0 : Nat) (l0 : List S28) (a1 : ByteArray) (r : List S28) (w : World) (hr0 : Kd.C k28 w A0 l0.length l0) (hc0 : l0.length ≤ c0) (h : GV.Without.f l0 a1 = some r) :
    Calls Try.prog 28 #[.slice A0 l0.length c0, .string a1] w fun e w' => ∃ v0_ : Value, e = .returned (v0_) ∧ Kd.R k28 28 w' w.heap.size (fun _ => True) v0_ r ∧ Below w.heap.size w w' := by
  unfold GV.Without.f at h
  split at h
  · rename_i hh
    rw [Bool.and_eq_true] at hh
    injection h with h
    subst h
    exact without_any A0 c0 l0 a1 w hr0 hc0 (okF_len hh.1) (okN_size hh.2) (okF_size hh.1)
  · cases h
end Go.Proofs.Ytfeciafdioepiaa
