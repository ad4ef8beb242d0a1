/- Get, Without, Names, Unknown in the printed form. -/
import Derived.Test.YtfeciafdioepiaaH17
set_option linter.unusedVariables false
set_option linter.unusedSimpArgs false
namespace Go.Proofs.Ytfeciafdioepiaa
open Go.RowKit Go.Proofs Go.Proofs.YtfeciafdioepiaaW.PrintWords Go.Proofs.Ytfeciafdioepiaa.PA

/-- Sizes at which the contracts speak. -/
def okF (l : List S28) : Bool := decide (l.length ≤ 1000000) && l.all fun x => decide (x.f0.size ≤ 140737488351232)
theorem okF_len {l : List S28} (h : okF l = true) : l.length ≤ 1000000 := by unfold okF at h; simp at h; exact h.1
theorem okF_size {l : List S28} (h : okF l = true) : ∀ x ∈ l, x.f0.size ≤ 140737488351232 := by unfold okF at h; simp at h; exact h.2
def okN (n : ByteArray) : Bool := decide (n.size ≤ 140737488351232)
theorem okN_size {n : ByteArray} (h : okN n = true) : n.size ≤ 140737488351232 := by unfold okN at h; simpa using h
def okNs (l : List ByteArray) : Bool := decide (l.length ≤ 140737488355328) && l.all okN
theorem okNs_len {l : List ByteArray} (h : okNs l = true) : l.length ≤ 140737488355328 := by unfold okNs at h; simp at h; exact h.1
theorem okNs_size {l : List ByteArray} (h : okNs l = true) : ∀ x ∈ l, x.size ≤ 140737488351232 := by unfold okNs at h; simp at h; exact fun x hx => okN_size (h.2 x hx)

def GV.Without.f (l : List S28) (n : ByteArray) : Option (List S28) := if (okF l && okN n) = true then some (l.filter fun x => !sameName x.f0 n) else none
theorem GV.Without.calls (A0 : Option Addr) (c0 : Nat) (l0 : List S28) (a1 : ByteArray) (r : List S28) (w : World) (hr0 : Kd.C k28 w A0 l0.length l0) (hc0 : l0.length ≤ c0) (h : GV.Without.f l0 a1 = some r) :
    Calls Try.prog 28 #[.slice A0 l0.length c0, .string a1] w fun e w' => ∃ v0_ : Value, e = .returned (v0_) ∧ Kd.R k28 28 w' w.heap.size (fun _ => True) v0_ r ∧ Below w.heap.size w w' := by
  unfold GV.Without.f at h
  split at h
  · rename_i hh
    rw [Bool.and_eq_true] at hh
    injection h with h
    subst h
    exact without_any A0 c0 l0 a1 w hr0 hc0 (okF_len hh.1) (okN_size hh.2) (okF_size hh.1)
  · cases h
def firstBody : List S28 → ByteArray
  | [] => ⟨#[]⟩
  | y :: _ => y.f1
def GV.Get.f (l : List S28) (n : ByteArray) : Option (ByteArray × Int) := if (okF l && okN n) = true then some (firstBody (l.filter fun x => sameName x.f0 n), ((l.filter fun x => sameName x.f0 n).length : Int)) else none
theorem GV.Get.calls (A0 : Option Addr) (c0 : Nat) (l0 : List S28) (a1 : ByteArray) (r1 : ByteArray) (r2 : Int) (w : World) (hr0 : Kd.C k28 w A0 l0.length l0) (hc0 : l0.length ≤ c0) (h : GV.Get.f l0 a1 = some (r1, r2)) :
    Calls Try.prog 30 #[.slice A0 l0.length c0, .string a1] w fun e w' => e = .returned (.tuple #[.string r1, .int .i64 r2]) ∧ Below w.heap.size w w' := by
  unfold GV.Get.f at h
  split at h
  · rename_i hh
    rw [Bool.and_eq_true] at hh
    injection h with h
    injection h with h1 h2
    subst h1 h2
    refine (get_any A0 c0 l0 a1 w hr0 hc0 (okF_len hh.1) (okN_size hh.2) (okF_size hh.1)).mono ?_
    rintro e w' ⟨rfl, hb⟩
    refine ⟨?_, hb⟩
    cases (l0.filter fun x => sameName x.f0 a1) <;> rfl
  · cases h
def GV.Names.f (l : List S28) : Option (List ByteArray) := if okF l = true then some (namesGo l []) else none
theorem GV.Names.calls (A0 : Option Addr) (c0 : Nat) (l0 : List S28) (r : List ByteArray) (w : World) (hr0 : Kd.C k28 w A0 l0.length l0) (hc0 : l0.length ≤ c0) (h : GV.Names.f l0 = some r) :
    Calls Try.prog 33 #[.slice A0 l0.length c0] w fun e w' => ∃ v0_ : Value, e = .returned (v0_) ∧ Kd.R Kd.string 9 w' w.heap.size (fun _ => True) v0_ r ∧ Below w.heap.size w w' := by
  unfold GV.Names.f at h
  split at h
  · rename_i hh
    injection h with h
    subst h
    exact names_any A0 c0 l0 w hr0 hc0 (okF_len hh) (okF_size hh)
  · cases h
def GV.Unknown.f (l : List S28) (ns : List ByteArray) : Option (List S28) := if (okF l && okNs ns) = true then some (l.filter fun x => !(ns.any fun y => sameName y x.f0)) else none
theorem GV.Unknown.calls (A0 : Option Addr) (c0 : Nat) (l0 : List S28) (A1 : Option Addr) (c1 : Nat) (l1 : List ByteArray) (r : List S28) (w : World) (hr0 : Kd.C k28 w A0 l0.length l0) (hc0 : l0.length ≤ c0) (hr1 : Kd.C Kd.string w A1 l1.length l1) (hc1 : l1.length ≤ c1) (h : GV.Unknown.f l0 l1 = some r) :
    Calls Try.prog 35 #[.slice A0 l0.length c0, .slice A1 l1.length c1] w fun e w' => ∃ v0_ : Value, e = .returned (v0_) ∧ Kd.R k28 28 w' w.heap.size (fun _ => True) v0_ r ∧ Below w.heap.size w w' := by
  unfold GV.Unknown.f at h
  split at h
  · rename_i hh
    rw [Bool.and_eq_true] at hh
    injection h with h
    subst h
    exact unknown_any A0 c0 l0 A1 c1 l1 w hr0 hc0 (okF_len hh.1) hr1 hc1 (okNs_len hh.2) (okNs_size hh.2) (okF_size hh.1)
  · cases h
end Go.Proofs.Ytfeciafdioepiaa
