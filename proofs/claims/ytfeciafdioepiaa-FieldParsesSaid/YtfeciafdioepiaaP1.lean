/- The reference's ValidName as a function on lists. -/
import Derived.Test.YtfeciafdioepiaaHB
import Derived.Test.YtfeciafdioepiaaPA3
set_option linter.unusedVariables false
set_option linter.unusedSimpArgs false
namespace Go.Proofs.Ytfeciafdioepiaa
open Go.RowKit Go.Proofs Go.Proofs.YtfeciafdioepiaaW.PrintWords Go.Proofs.Ytfeciafdioepiaa.PA

def lowU (c : UInt8) : Bool := decide (97 ≤ c) && decide (c ≤ 122)
def uppU (c : UInt8) : Bool := decide (65 ≤ c) && decide (c ≤ 90)
theorem rLowF (c : UInt8) : bulletinref01_Lowercase.f (c.toNat : Int) = some (lowU c) := by
  refine all_u8 (P := fun c => bulletinref01_Lowercase.f (c.toNat : Int) = some (lowU c)) ?_ c
  decide +kernel
theorem rUppF (c : UInt8) : bulletinref01_Uppercase.f (c.toNat : Int) = some (uppU c) := by
  refine all_u8 (P := fun c => bulletinref01_Uppercase.f (c.toNat : Int) = some (uppU c)) ?_ c
  decide +kernel
theorem rDigF (c : UInt8) : bulletinref01_Digit.f (c.toNat : Int) = some (isDigitU c) := by
  refine all_u8 (P := fun c => bulletinref01_Digit.f (c.toNat : Int) = some (isDigitU c)) ?_ c
  decide +kernel
theorem letter_or (c : UInt8) : isLetterU c = (lowU c || uppU c) := by
  refine all_u8 (P := fun c => isLetterU c = (lowU c || uppU c)) ?_ c
  decide +kernel

theorem refValidLoop (l : List UInt8) (hl : l.length ≤ 1000000) : ∀ d k i : Nat, l.length - i = d → d < k → i ≤ l.length → 0 < i →
    bulletinref09_ValidName.l0 k (mkS l) (i : Int) = some ((l.drop i).all nameByte) := by
  have hs := mkS_size l
  intro d
  induction d with
  | zero =>
    intro k i hd hk hi _
    obtain ⟨k, rfl⟩ : ∃ m, k = m + 1 := ⟨k - 1, by omega⟩
    simp only [bulletinref09_ValidName.l0]
    rw [if_neg (by omega), List.drop_eq_nil_of_le (by omega)]; rfl
  | succ d ih =>
    intro k i hd hk hi h0
    obtain ⟨k, rfl⟩ : ∃ m, k = m + 1 := ⟨k - 1, by omega⟩
    simp only [bulletinref09_ValidName.l0]
    have hlt : i < l.length := by omega
    have hw : wrap64 ((i : Int) + 1) = ((i + 1 : Nat) : Int) := by unfold wrap64; omega
    rw [if_pos (by omega), if_pos (by omega), bt_mk l i hlt, rLowF, List.drop_eq_getElem_cons hlt, List.all_cons, hw]
    simp only [Option.bind_some]
    have hih := ih k (i + 1) (by omega) (by omega) (by omega) (by omega)
    rw [hih]
    by_cases h1 : lowU l[i] = true
    · rw [if_pos h1]; simp [nameByte, letter_or, h1]
    · rw [if_neg h1, rUppF]
      simp only [Option.bind_some]
      by_cases h2 : uppU l[i] = true
      · rw [if_pos h2]; simp [nameByte, letter_or, h2]
      · rw [if_neg h2, if_neg (by omega), rDigF]
        simp only [Option.bind_some]
        by_cases h3 : isDigitU l[i] = true
        · rw [if_pos h3]; simp [nameByte, h3]
        · rw [if_neg h3]
          by_cases h4 : l[i] = 45
          · rw [if_pos ((byte45 _).2 h4)]; simp [nameByte, h4]
          · rw [if_neg (fun h => h4 ((byte45 _).1 h))]; simp [nameByte, letter_or, h1, h2, h3, h4]
theorem refValidF (l : List UInt8) (hl : l.length ≤ 1000000) (k : Nat) (hk : l.length + 2 ≤ k) : bulletinref09_ValidName.f k (mkS l) = some (validNameL l) := by
  have hs := mkS_size l
  obtain ⟨k, rfl⟩ : ∃ m, k = m + 1 := ⟨k - 1, by omega⟩
  unfold bulletinref09_ValidName.f
  cases l with
  | nil =>
    rw [if_pos (by rw [hs]; simp)]
    simp only [bulletinref09_ValidName.j0]
    rfl
  | cons c t =>
    have hlc : (c :: t).length = t.length + 1 := rfl
    rw [if_neg (by omega)]
    simp only [bulletinref09_ValidName.j0]
    by_cases h40 : (c :: t).length ≤ 40
    · rw [if_neg (by simp; omega)]
      obtain ⟨k, rfl⟩ : ∃ m, k = m + 1 := ⟨k - 1, by omega⟩
      simp only [bulletinref09_ValidName.l0]
      have hb := bt_mk (c :: t) 0 (by omega)
      rw [if_pos (by omega), if_pos (by omega), show (0 : Int) = ((0 : Nat) : Int) from rfl, hb, rLowF]
      have hw : wrap64 (((0 : Nat) : Int) + 1) = ((1 : Nat) : Int) := by unfold wrap64; omega
      rw [hw, refValidLoop (c :: t) hl _ k 1 rfl (by omega) (by omega) (by omega)]
      simp only [Option.bind_some, List.getElem_cons_zero, List.drop_one, List.tail_cons]
      by_cases h1 : lowU c = true
      · rw [if_pos h1]; simp [validNameL, nameByte, letter_or, h1]; omega
      · rw [if_neg h1, rUppF]
        simp only [Option.bind_some]
        by_cases h2 : uppU c = true
        · rw [if_pos h2]; simp [validNameL, nameByte, letter_or, h2]; omega
        · rw [if_neg h2, if_pos trivial]; simp [validNameL, letter_or, h1, h2]
    · rw [if_pos (by simp; omega)]
      have : decide ((c :: t).length ≤ 40) = false := decide_eq_false h40
      unfold validNameL; rw [this]; rfl
theorem field_ValidName_le (l : List UInt8) (hl : l.length ≤ 1000000) (k : Nat) (hk : l.length + 2 ≤ k) : field_ValidName.f k (mkS l) = some (validNameL l) := by
  obtain ⟨m, rfl⟩ : ∃ m, k = l.length + 2 + m := ⟨k - (l.length + 2), by omega⟩
  have h := validNameF l hl
  clear hk
  induction m with
  | zero => exact h
  | succ m ih => exact field_ValidName.mono _ _ _ ih

theorem mn_nat (a b : Nat) : mn (a : Int) (b : Int) = ((min a b : Nat) : Int) := by unfold mn; split <;> omega
end Go.Proofs.Ytfeciafdioepiaa
