/- The row of ArticleLimits over the listed tables, and its tied card. -/
import Derived.Test.YtfeciafdioepiaaGreatDoorHLjS7
import Derived.Test.YtfeciafdioepiaaGreatDoorHLjS5
import Derived.Test.YtfeciafdioepiaaGreatDoorHLjS2
import Derived.Test.YtfeciafdioepiaaGreatDoorHLjS8
import Derived.Test.YtfeciafdioepiaaGreatDoorHLjS6
import Derived.Lib.IndexMore
import Derived.Test.YtfeciafdioepiaaGreatDoorHLjS10
import Derived.Test.YtfeciafdioepiaaGreatDoorRows
import Derived.Test.YtfeciafdioepiaaGreatDoorCards
import Derived.Test.YtfeciafdioepiaaGreatDoorTie
import Derived.WalkKit
import Derived.ProofKit
import Derived.OpenShut
import Derived.ShutString
import Derived.ChangeOld
import Derived.Below
import Derived.SizedLaws
import Derived.HandedShaped
set_option linter.unusedVariables false
set_option linter.unusedSimpArgs false
/- The reference's ValidName as a function on lists. -/
namespace Go.Proofs.YtfeciafdioepiaaGreatDoor
open Go.RowKit Go.Proofs Go.Proofs.YtfeciafdioepiaaGreatDoorW.PrintWords Go.Proofs.YtfeciafdioepiaaGreatDoor.PA

theorem validLoopM (l : List UInt8) (hl : l.length ≤ 1100000) : ∀ d k i : Nat, l.length - i = d → d < k → i ≤ l.length →
    field_ValidName.l0 k (mkS l) (l.length : Int) (i : Int) = some ((l.drop i).all nameByte) := by
  have hs := mkS_size l
  intro d
  induction d with
  | zero =>
    intro k i hd hk hi
    obtain ⟨k, rfl⟩ : ∃ m, k = m + 1 := ⟨k - 1, by omega⟩
    simp only [field_ValidName.l0]
    rw [if_neg (by omega), List.drop_eq_nil_of_le (by omega)]; rfl
  | succ d ih =>
    intro k i hd hk hi
    obtain ⟨k, rfl⟩ : ∃ m, k = m + 1 := ⟨k - 1, by omega⟩
    simp only [field_ValidName.l0]
    have hlt : i < l.length := by omega
    have hw : wrap64 ((i : Int) + 1) = ((i + 1 : Nat) : Int) := by unfold wrap64; omega
    rw [if_pos (by omega), if_pos (by omega), if_pos (by omega), bt_mk l i hlt, letterF, List.drop_eq_getElem_cons hlt, List.all_cons]
    simp only [Option.bind_some]
    have hih := ih k (i + 1) (by omega) (by omega) (by omega)
    by_cases h1 : isLetterU l[i] = true
    · rw [if_pos h1, hw, hih]; simp [nameByte, h1]
    · rw [if_neg h1, digitF]
      simp only [Option.bind_some]
      by_cases h2 : isDigitU l[i] = true
      · rw [if_pos h2, hw, hih]; simp [nameByte, h2]
      · rw [if_neg h2]
        by_cases h3 : l[i] = 45
        · rw [if_pos ((byte45 _).2 h3), hw, hih]; simp [nameByte, h3]
        · rw [if_neg (fun h => h3 ((byte45 _).1 h))]; simp [nameByte, h1, h2, h3]
theorem validNameM (l : List UInt8) (hl : l.length ≤ 1100000) : field_ValidName.f (l.length + 2) (mkS l) = some (validNameL l) := by
  have hs := mkS_size l
  unfold field_ValidName.f
  rw [toList_mk]
  have hj : ∀ b, field_ValidName.j0 (l.length + 2) (mkS l) b = if b = true then some false else some (l.all nameByte) := by
    intro b
    simp only [field_ValidName.j0]
    split
    · rfl
    · rw [hs]; exact validLoopM l hl l.length _ 0 (by omega) (by omega) (by omega)
  by_cases h0 : l = []
  · subst h0; rw [if_pos rfl, hj]; rfl
  · rw [if_neg h0]; simp only [hj]
    have hpos := List.length_pos_iff.2 h0
    unfold validNameL
    by_cases h1 : 40 < l.length
    · rw [if_pos (by omega), decide_eq_false (by omega)]; rfl
    · rw [if_neg (by omega), if_pos (by omega), decide_eq_true (by omega)]
      have := bt_mk l 0 hpos
      rw [show ((0 : Nat) : Int) = 0 from rfl] at this
      rw [this, letterF]
      simp only [Option.bind_some]
      cases l with
      | nil => exact absurd rfl h0
      | cons c r =>
        simp only [List.getElem_cons_zero]
        rcases Bool.eq_false_or_eq_true (isLetterU c) with hc | hc <;> simp [hc]
theorem field_ValidName_le (l : List UInt8) (hl : l.length ≤ 1100000) (k : Nat) (hk : l.length + 2 ≤ k) : field_ValidName.f k (mkS l) = some (validNameL l) := by
  obtain ⟨m, rfl⟩ : ∃ m, k = l.length + 2 + m := ⟨k - (l.length + 2), by omega⟩
  have h := validNameM l hl
  clear hk
  induction m with
  | zero => exact h
  | succ m ih => exact field_ValidName.mono _ _ _ ih

end Go.Proofs.YtfeciafdioepiaaGreatDoor

/- Plain: what the printed functions of the reference compute, for all large numbers of rounds: Words, Printable, Squeeze, Check, Fold. -/
namespace Go.Proofs.YtfeciafdioepiaaGreatDoor
open Go.RowKit Go.Proofs Go.Proofs.YtfeciafdioepiaaGreatDoorW.PrintWords Go.Proofs.YtfeciafdioepiaaGreatDoor.PA

/-- From some number of rounds on. -/
def Ev {α : Type} (f : Nat → Option α) (r : α) : Prop := ∃ K, ∀ k, K ≤ k → f k = some r
section
variable {α β : Type}
theorem Ev.const {o : Option α} {r : α} (h : o = some r) : Ev (fun _ => o) r := ⟨0, fun _ _ => h⟩
theorem Ev.bind {f : Nat → Option α} {g : Nat → α → Option β} {a : α} {r : β} (h : Ev f a) (k : Ev (fun n => g n a) r) : Ev (fun n => (f n).bind (g n)) r := by
  obtain ⟨K, h⟩ := h
  obtain ⟨K', k⟩ := k
  refine ⟨max K K', fun n hn => ?_⟩
  show (f n).bind (g n) = some r
  rw [h n (by omega), Option.bind_some]
  exact k n (by omega)
theorem Ev.ite_pos {c : Prop} [Decidable c] {f g : Nat → Option α} {r : α} (h : c) (k : Ev f r) : Ev (fun n => if c then f n else g n) r := by
  simpa [h] using k
theorem Ev.ite_neg {c : Prop} [Decidable c] {f g : Nat → Option α} {r : α} (h : ¬ c) (k : Ev g r) : Ev (fun n => if c then f n else g n) r := by
  simpa [h] using k
theorem Ev.next {f : Nat → Option α} {r : α} (h : Ev (fun n => f (n + 1)) r) : Ev f r := by
  obtain ⟨K, h⟩ := h
  refine ⟨K + 1, fun n hn => ?_⟩
  obtain ⟨m, rfl⟩ : ∃ m, n = m + 1 := ⟨n - 1, by omega⟩
  exact h m (by omega)
theorem Ev.is {f : Nat → Option α} {r r' : α} (h : Ev f r) (e : r = r') : Ev f r' := e ▸ h
theorem Ev.same {f g : Nat → Option α} {r : α} (h : Ev g r) (e : ∀ n, f n = g n) : Ev f r := by
  obtain ⟨K, h⟩ := h
  exact ⟨K, fun n hn => (e n).trans (h n hn)⟩
theorem Ev.rpos {c : Prop} [Decidable c] {f : Nat → Option α} {a b : α} (h : c) (k : Ev f a) : Ev f (if c then a else b) := by rw [if_pos h]; exact k
theorem Ev.rneg {c : Prop} [Decidable c] {f : Nat → Option α} {a b : α} (h : ¬ c) (k : Ev f b) : Ev f (if c then a else b) := by rw [if_neg h]; exact k
theorem Ev.at_ {f : Nat → Option α} {r : α} (h : Ev f r) : ∃ k, f k = some r := by
  obtain ⟨K, h⟩ := h
  exact ⟨K, h K (Nat.le_refl _)⟩
end

theorem wrap_nat (i : Nat) (h : i < 100000000000000) : wrap64 ((i : Int) + 1) = ((i + 1 : Nat) : Int) := by unfold wrap64; omega

theorem wrap_add (a b : Nat) (h : a + b < 100000000000000) : wrap64 ((a : Int) + (b : Int)) = ((a + b : Nat) : Int) := by unfold wrap64; omega
/-! ### Words -/
/-! ### Printable -/
/-! ### Squeeze -/
end Go.Proofs.YtfeciafdioepiaaGreatDoor

/- Plain: Check and Fold of the program. -/
namespace Go.Proofs.YtfeciafdioepiaaGreatDoor
open Go.RowKit Go.Proofs Go.Proofs.YtfeciafdioepiaaGreatDoorW.PrintWords Go.Proofs.YtfeciafdioepiaaGreatDoor.PA

def longAny (b : List UInt8) : Bool := (wordsL b).any fun x => decide (900 < x.length)
def checkL (n b : List UInt8) : Int := if validNameL n = true then (if printableZ b ≥ 0 then 6 else if joinW (wordsL b) = b then (if 8192 < b.length then 5 else if longAny b = true then 5 else 0) else 3) else 12

theorem any_long (b : List UInt8) : ((wordsL b).map mkS).any (fun x => decide (900 < x.size)) = longAny b := by
  unfold longAny
  rw [List.any_map]
  congr 1

theorem wordsB_mk (b : List UInt8) : wordsB (mkS b) = (wordsL b).map mkS := by unfold wordsB; rw [mkS_toList]
theorem checkF (n b : List UInt8) (hn : n.length ≤ 1100000) (hb : b.length ≤ 1100000) : Ev (fun k => PB.field_Field_Check.f k (mkS n) (mkS b)) (checkL n b) := by
  have hbs := mkS_size b
  have h5 := wordsL_len b
  have h6 := wordsL_sum b
  unfold PB.field_Field_Check.f checkL
  refine Ev.bind (a := (wordsL b).map mkS) (Ev.const (by unfold GV.Words.f; rw [if_pos (by omega), wordsB_mk])) ?_
  refine Ev.bind ⟨n.length + 2, fun k hk => field_ValidName_le n hn k hk⟩ ?_
  by_cases h1 : validNameL n = true
  · refine Ev.rpos h1 ?_
    refine Ev.ite_pos h1 (Ev.bind (a := printableZ b) (Ev.const (by unfold GV.Printable.f; rw [if_pos (by omega), mkS_toList])) ?_)
    by_cases h2 : printableZ b ≥ 0
    · refine Ev.rpos h2 ?_; exact Ev.ite_pos h2 (Ev.const rfl)
    · refine Ev.rneg h2 ?_
      have hj : joinB ((wordsL b).map mkS) ⟨#[32]⟩ = mkS (joinW (wordsL b)) := joinB_mk _
      have hjl := joinW_len (wordsL b)
      have hJ : GV.Join.f ((wordsL b).map mkS) ⟨#[32]⟩ = some (mkS (joinW (wordsL b))) := by
        unfold GV.Join.f
        rw [hj, if_pos ⟨by rw [List.length_map]; omega, by rw [mkS_size]; omega⟩]
      refine Ev.ite_neg h2 (Ev.bind (Ev.const hJ) ?_)
      rw [toList_mk, toList_mk]
      by_cases h3 : joinW (wordsL b) = b
      · refine Ev.rpos h3 ?_
        refine Ev.ite_pos h3 ?_
        rw [mkS_size]
        by_cases h4 : 8192 < b.length
        · refine Ev.rpos h4 ?_; exact Ev.ite_pos (by omega) (Ev.const rfl)
        · refine Ev.rneg h4 ?_
          have hS : GV.someLong.f ((wordsL b).map mkS) (Value.func (.func 120) #[] #[]) = some (longAny b) := by
            unfold GV.someLong.f
            rw [if_pos ⟨by rw [List.length_map]; omega, rfl⟩, any_long]
          refine Ev.ite_neg (by omega) (Ev.bind (Ev.const hS) ?_)
          by_cases h7 : longAny b = true
          · refine Ev.rpos h7 ?_; exact Ev.ite_pos h7 (Ev.const rfl)
          · refine Ev.rneg h7 ?_; exact Ev.ite_neg h7 (Ev.const rfl)
      · refine Ev.rneg h3 ?_; exact Ev.ite_neg h3 (Ev.const rfl)
  · refine Ev.rneg h1 ?_; exact Ev.ite_neg h1 (Ev.const rfl)

theorem check_small {n b : List UInt8} (h : checkL n b = 0) : n.length ≤ 40 ∧ b.length ≤ 8192 := by
  unfold checkL at h
  split at h
  · rename_i h1
    split at h
    · cases h
    · split at h
      · split at h
        · cases h
        · rename_i h4
          unfold validNameL at h1
          simp only [Bool.and_eq_true] at h1
          exact ⟨of_decide_eq_true h1.1.1, Nat.le_of_not_lt h4⟩
      · cases h
  · cases h
theorem foldF (n b : List UInt8) (hn : n.length ≤ 1100000) (hb : b.length ≤ 1100000) : Ev (fun k => GV.Fold.f k (mkS n) (mkS b)) (if checkL n b = 0 then (mkS (foldL n b), 0) else (⟨#[]⟩, checkL n b)) := by
  unfold GV.Fold.f
  refine Ev.bind (checkF n b hn hb) ?_
  by_cases h : checkL n b = 0
  · refine Ev.rpos h ?_
    refine Ev.ite_pos h (Ev.ite_pos ⟨by rw [mkS_size]; have := (check_small h).1; omega, by rw [mkS_size]; have := (check_small h).2; omega⟩ (Ev.const ?_))
    rw [mkS_toList, mkS_toList]
  · refine Ev.rneg h ?_; exact Ev.ite_neg h (Ev.const rfl)

end Go.Proofs.YtfeciafdioepiaaGreatDoor
set_option linter.unusedVariables false
set_option linter.unusedSimpArgs false
/- Plain: Of, To, Same; the reference's parser against the list parser. -/
namespace Go.Proofs.YtfeciafdioepiaaGreatDoor
open Go.RowKit Go.Proofs Go.Proofs.YtfeciafdioepiaaGreatDoorW.PrintWords Go.Proofs.YtfeciafdioepiaaGreatDoor.PA

/-! ### add -/
/-- Where the first word that is too long begins. -/
def longAt (line : List UInt8) : Nat → List (List UInt8) → Option Nat
  | _, [] => none
  | i, x :: xs => if 900 < x.length then some (spanA isBlank line i) else longAt line (spanA isBlank line i + x.length) xs
end Go.Proofs.YtfeciafdioepiaaGreatDoor

/- Plain: one line of the reference's parser and of the list parser. -/
namespace Go.Proofs.YtfeciafdioepiaaGreatDoor
open Go.RowKit Go.Proofs Go.Proofs.YtfeciafdioepiaaGreatDoorW.PrintWords Go.Proofs.YtfeciafdioepiaaGreatDoor.PA

/-! ### words and joins -/
def wordOk (x : List UInt8) : Prop := x ≠ [] ∧ ∀ c ∈ x, isBlank c = false
theorem wordsGo_ok (l : List UInt8) : ∀ cur, (∀ c ∈ cur, isBlank c = false) → ∀ x ∈ wordsGo l cur, wordOk x := by
  induction l with
  | nil =>
    intro cur hc x hx
    unfold wordsGo at hx
    split at hx
    · simp at hx
    · rename_i h; simp at hx; subst hx; exact ⟨h, hc⟩
  | cons c l ih =>
    intro cur hc x hx
    unfold wordsGo at hx
    by_cases hb : isBlank c = true
    · rw [if_pos hb] at hx
      by_cases h0 : cur = []
      · rw [if_pos h0] at hx; exact ih [] (by simp) x hx
      · rw [if_neg h0] at hx
        rcases List.mem_cons.1 hx with rfl | hx
        · exact ⟨h0, hc⟩
        · exact ih [] (by simp) x hx
    · rw [if_neg hb] at hx
      refine ih (cur ++ [c]) (fun d hd => ?_) x hx
      rcases List.mem_append.1 hd with h | h
      · exact hc d h
      · simp at h; subst h; simpa using hb
theorem wordsL_ok (l : List UInt8) : ∀ x ∈ wordsL l, wordOk x := wordsGo_ok l [] (by simp)
theorem wordsGo_app (x : List UInt8) (hx : ∀ c ∈ x, isBlank c = false) (r : List UInt8) : ∀ cur, wordsGo (x ++ r) cur = wordsGo r (cur ++ x) := by
  induction x with
  | nil => intro cur; simp
  | cons c x ih =>
    intro cur
    rw [List.cons_append]
    conv => lhs; unfold wordsGo
    have := hx c (by simp)
    rw [if_neg (by simp [this]), ih (fun d hd => hx d (by simp [hd])), List.append_assoc]; rfl
theorem words_join : ∀ (ws : List (List UInt8)), (∀ x ∈ ws, wordOk x) → wordsL (joinW ws) = ws
  | [], _ => rfl
  | [x], h => by
    have hx := h x (by simp)
    show wordsGo (joinW [x]) [] = [x]
    have : joinW [x] = x ++ [] := by simp [joinW, List.intercalate]
    rw [this, wordsGo_app x hx.2]
    simp [wordsGo, hx.1]
  | x :: y :: ws, h => by
    have hx := h x (by simp)
    have ih := words_join (y :: ws) (fun z hz => h z (by simp at hz ⊢; exact Or.inr hz))
    have : joinW (x :: y :: ws) = x ++ (32 :: joinW (y :: ws)) := by simp [joinW, List.intercalate_cons_cons]
    rw [this]
    unfold wordsL
    rw [wordsGo_app x hx.2, List.nil_append]
    conv => lhs; unfold wordsGo
    rw [if_pos (by decide), if_neg hx.1]
    congr 1
/-! ### one line -/
def bodyE (pos : Nat) (fs : List Fld) (line : List UInt8) (i : Nat) : (Int × Int) ⊕ (List Fld × Nat) :=
  match longAt line i (wordsL (line.drop i)) with
  | some p => .inl (((pos + p : Nat) : Int), 5)
  | none => if 8192 < (joinW (wordsL (lastBody fs) ++ wordsL (line.drop i))).length then .inl ((pos : Int), 5) else .inr (setBody fs (joinW (wordsL (lastBody fs) ++ wordsL (line.drop i))), pos + (line.length + 1))
def lineE (text : List UInt8) (pos : Nat) (fs : List Fld) (line : List UInt8) : (Int × Int) ⊕ (List Fld × Nat) :=
  if contP line = true then (if fs = [] then .inl ((pos : Int), 3) else bodyE pos fs line 0)
  else if colonP line = line.length then .inl ((pos : Int), 3)
  else if validNameL (line.take (colonP line)) = false then .inl ((pos : Int), 12)
  else if fs.length = 64 then .inl ((pos : Int), 9)
  else bodyE pos (fs ++ [⟨line.take (colonP line), []⟩]) line (colonP line + 1)
def stepP (text : List UInt8) (pos : Nat) (fs : List Fld) : (Int × Int) ⊕ (List Fld × Nat) :=
  if spanL notNl (text.drop pos) = (text.drop pos).length then .inl ((text.length : Int), 4)
  else if 998 < spanL notNl (text.drop pos) then .inl (((pos + 998 : Nat) : Int), 5)
  else if spanL okByte ((text.drop pos).take (spanL notNl (text.drop pos))) < spanL notNl (text.drop pos) then .inl (((pos + spanL okByte ((text.drop pos).take (spanL notNl (text.drop pos))) : Nat) : Int), 6)
  else lineE text pos fs ((text.drop pos).take (spanL notNl (text.drop pos)))

theorem wordsP_failed : ∀ (ws : List (List UInt8)) (s : PSt) (line : List UInt8) (i : Nat), s.failed ≠ 0 → wordsP s line i ws = s
  | [], _, _, _, _ => rfl
  | x :: xs, s, line, i, h => by
    rw [wordsP_cons]
    split
    · rw [failP_ne _ _ _ h]; exact wordsP_failed xs s line _ h
    · exact wordsP_failed xs s line _ h
theorem wordsP_long : ∀ (ws : List (List UInt8)) (s : PSt) (line : List UInt8) (i : Nat), s.failed = 0 → wordsP s line i ws = match longAt line i ws with
    | some p => failP s ((s.pos + p : Nat) : Int) 5
    | none => s
  | [], _, _, _, _ => rfl
  | x :: xs, s, line, i, h => by
    rw [wordsP_cons]
    unfold longAt
    by_cases hx : 900 < x.length
    · rw [if_pos hx, if_pos hx]
      rw [wordsP_failed xs _ line _ (failP_failed0 (by decide))]
      simp
    · rw [if_neg hx, if_neg hx]
      exact wordsP_long xs s line _ h
/-- What one step of the list parser does. -/
def Does (s : PSt) (p0 : Int) : (Int × Int) ⊕ (List Fld × Nat) → Prop
  | .inl (pl, e) => s.failed = e ∧ s.place = pl ∧ e ≠ 0
  | .inr (fs, pos) => s = ⟨pos, fs, p0, 0⟩
theorem failP_does {s : PSt} {p e p0 : Int} (h : s.failed = 0) (he : e ≠ 0) : (failP s p e).failed = e ∧ (failP s p e).place = p ∧ e ≠ 0 := by
  unfold failP; rw [if_pos h]; exact ⟨rfl, rfl, he⟩
theorem bodyP_does (pos : Nat) (fs : List Fld) (p0 : Int) (line : List UInt8) (i n : Nat) (hn : n = line.length) :
    Does { bodyP ⟨pos, fs, p0, 0⟩ line i with pos := (bodyP ⟨pos, fs, p0, 0⟩ line i).pos + (n + 1) } p0 (bodyE pos fs line i) := by
  unfold bodyP bodyE
  dsimp only
  have hw := wordsP_long (wordsL (line.drop i)) ⟨pos, fs, p0, 0⟩ line i rfl
  rw [hw]
  cases hl : longAt line i (wordsL (line.drop i)) with
  | some p =>
    dsimp only
    have hf : (failP (⟨pos, fs, p0, 0⟩ : PSt) (((pos + p : Nat)) : Int) 5) = ⟨pos, fs, ((pos + p : Nat) : Int), 5⟩ := by unfold failP; rw [if_pos rfl]
    rw [hf]
    dsimp only
    split
    · rw [failP_ne _ _ _ (by show (5 : Int) ≠ 0; decide)]; exact ⟨rfl, rfl, by decide⟩
    · exact ⟨rfl, rfl, by decide⟩
  | none =>
    dsimp only
    split
    · exact failP_does (s := ⟨pos, setBody fs (joinW (wordsL (lastBody fs) ++ wordsL (line.drop i))), p0, 0⟩) (p := (pos : Int)) (e := 5) (p0 := p0) rfl (by decide)
    · show _ = _
      rw [hn]
theorem oneP_does (text : List UInt8) (pos : Nat) (fs : List Fld) (p0 : Int) : Does (oneP text ⟨pos, fs, p0, 0⟩) p0 (stepP text pos fs) := by
  unfold oneP stepP lineP
  dsimp only
  have hle := spanL_le notNl (text.drop pos)
  by_cases h1 : spanL notNl (text.drop pos) = (text.drop pos).length
  · rw [if_pos h1, if_pos h1]
    dsimp only
    rw [if_pos (failP_failed0 (by decide))]
    exact failP_does (s := ⟨pos, fs, p0, 0⟩) (p := (text.length : Int)) (e := 4) (p0 := p0) rfl (by decide)
  · rw [if_neg h1, if_neg h1]
    dsimp only
    generalize hn : spanL notNl (text.drop pos) = n at *
    have hll : ((text.drop pos).take n).length = n := by rw [List.length_take]; omega
    by_cases h2 : 998 < n
    · rw [if_pos h2, if_pos h2]
      have hf : (failP (⟨pos, fs, p0, 0⟩ : PSt) ((pos : Int) + 998) 5) = ⟨pos, fs, ((pos + 998 : Nat) : Int), 5⟩ := by unfold failP; rw [if_pos rfl]; simp
      rw [hf]
      split
      · rw [failP_ne _ _ _ (by show (5 : Int) ≠ 0; decide), if_pos (by show (5 : Int) ≠ 0; decide)]; exact ⟨rfl, rfl, by decide⟩
      · rw [if_pos (by show (5 : Int) ≠ 0; decide)]; exact ⟨rfl, rfl, by decide⟩
    · rw [if_neg h2, if_neg h2]
      by_cases h3 : spanL okByte ((text.drop pos).take n) < n
      · rw [if_pos h3, if_pos h3, if_pos (failP_failed0 (by decide))]
        have := failP_does (s := ⟨pos, fs, p0, 0⟩) (p := (pos : Int) + spanL okByte ((text.drop pos).take n)) (e := 6) (p0 := p0) rfl (by decide)
        simpa [Does] using this
      · rw [if_neg h3, if_neg h3, if_neg (by simp)]
        generalize (text.drop pos).take n = line at *
        unfold switchP lineE
        dsimp only
        by_cases h4 : contP line = true
        · rw [if_pos h4, if_pos h4]
          by_cases h5 : fs = []
          · rw [if_pos h5, if_pos h5]; exact failP_does (s := ⟨pos, fs, p0, 0⟩) (p := (pos : Int)) (e := 3) (p0 := p0) rfl (by decide)
          · rw [if_neg h5, if_neg h5]; exact bodyP_does pos fs p0 line 0 _ rfl
        · rw [if_neg h4, if_neg h4]
          by_cases h5 : colonP line = line.length
          · rw [if_pos h5, if_pos h5]; exact failP_does (s := ⟨pos, fs, p0, 0⟩) (p := (pos : Int)) (e := 3) (p0 := p0) rfl (by decide)
          · rw [if_neg h5, if_neg h5]
            by_cases h6 : validNameL (line.take (colonP line)) = false
            · rw [if_pos h6, if_pos h6]; exact failP_does (s := ⟨pos, fs, p0, 0⟩) (p := (pos : Int)) (e := 12) (p0 := p0) rfl (by decide)
            · rw [if_neg h6, if_neg h6]
              by_cases h7 : fs.length = 64
              · rw [if_pos h7, if_pos h7]; exact failP_does (s := ⟨pos, fs, p0, 0⟩) (p := (pos : Int)) (e := 9) (p0 := p0) rfl (by decide)
              · rw [if_neg h7, if_neg h7]; exact bodyP_does pos _ p0 line _ _ rfl
end Go.Proofs.YtfeciafdioepiaaGreatDoor

/- Plain: the reference's parser does what the list parser does. -/
namespace Go.Proofs.YtfeciafdioepiaaGreatDoor
open Go.RowKit Go.Proofs Go.Proofs.YtfeciafdioepiaaGreatDoorW.PrintWords Go.Proofs.YtfeciafdioepiaaGreatDoor.PA

def toR (f : Fld) : S78 := ⟨mkS f.name, mkS f.body⟩
end Go.Proofs.YtfeciafdioepiaaGreatDoor

/- Plain: the two parsers agree; the law of the parsing. -/
namespace Go.Proofs.YtfeciafdioepiaaGreatDoor
open Go.RowKit Go.Proofs Go.Proofs.YtfeciafdioepiaaGreatDoorW.PrintWords Go.Proofs.YtfeciafdioepiaaGreatDoor.PA

structure CanP (fs : List Fld) : Prop where
  len : fs.length ≤ 64
  can : joinW (wordsL (lastBody fs)) = lastBody fs
  body : (lastBody fs).length ≤ 8192
theorem lastBody_snoc (fs : List Fld) (f : Fld) : lastBody (fs ++ [f]) = f.body := by unfold lastBody; simp
theorem lastBody_set (fs : List Fld) (h : fs ≠ []) (b : List UInt8) : lastBody (setBody fs b) = b := by
  unfold setBody
  rw [List.getLast?_eq_some_getLast h]
  exact lastBody_snoc _ _
theorem setBody_len (fs : List Fld) (b : List UInt8) : (setBody fs b).length = fs.length := by
  by_cases h : fs = []
  · subst h; rfl
  · have := congrArg List.length (setBody_map id fs b h); simpa using this
theorem bodyE_can {pos : Nat} {fs : List Fld} {line : List UInt8} {i : Nat} {fs' : List Fld} {pos' : Nat} (h0 : fs ≠ []) (hc : CanP fs) (h : bodyE pos fs line i = .inr (fs', pos')) : CanP fs' ∧ pos' = pos + (line.length + 1) := by
  unfold bodyE at h
  split at h
  · cases h
  · split at h
    · cases h
    · rename_i h8
      injection h with h
      injection h with h1 h2
      subst h1 h2
      refine ⟨⟨by rw [setBody_len]; exact hc.len, ?_, ?_⟩, rfl⟩
      · rw [lastBody_set fs h0, words_join _ (fun x hx => by rcases List.mem_append.1 hx with h | h <;> exact wordsL_ok _ x h)]
      · rw [lastBody_set fs h0]; omega
theorem lineE_can {text : List UInt8} {pos : Nat} {fs : List Fld} {line : List UInt8} {fs' : List Fld} {pos' : Nat} (hc : CanP fs) (h : lineE text pos fs line = .inr (fs', pos')) : CanP fs' ∧ pos' = pos + (line.length + 1) := by
  unfold lineE at h
  split at h
  · split at h
    · cases h
    · exact bodyE_can (by assumption) hc h
  · split at h
    · cases h
    · split at h
      · cases h
      · split at h
        · cases h
        · have := hc.len
          exact bodyE_can (by simp) ⟨by simp; omega, by rw [lastBody_snoc]; rfl, by rw [lastBody_snoc]; simp⟩ h
theorem stepP_can {text : List UInt8} {pos : Nat} {fs : List Fld} {fs' : List Fld} {pos' : Nat} (hc : CanP fs) (h : stepP text pos fs = .inr (fs', pos')) : CanP fs' ∧ pos < pos' ∧ pos' ≤ text.length := by
  unfold stepP at h
  have hle := spanL_le notNl (text.drop pos)
  split at h
  · cases h
  · split at h
    · cases h
    · split at h
      · cases h
      · rename_i h1 _ _
        obtain ⟨h2, h3⟩ := lineE_can hc h
        refine ⟨h2, ?_⟩
        rw [List.length_take] at h3
        rw [List.length_drop] at h1 hle h3
        omega

theorem loopP_stop (text : List UInt8) (m : Nat) (s : PSt) (h : ¬ (s.failed = 0 ∧ s.pos < text.length)) : loopP text m s = s := by
  cases m with
  | zero => rfl
  | succ m => unfold loopP; rw [if_neg h]
/-- What every step keeps, the result has. -/
theorem loop_ind (text : List UInt8) (P : Nat → List Fld → Prop) (hstep : ∀ pos fs fs' pos', pos < text.length → CanP fs → P pos fs → stepP text pos fs = .inr (fs', pos') → P pos' fs') (p0 : Int) :
    ∀ m pos : Nat, text.length - pos < m → pos ≤ text.length → ∀ fs : List Fld, CanP fs → P pos fs → (loopP text m ⟨pos, fs, p0, 0⟩).failed = 0 → CanP (loopP text m ⟨pos, fs, p0, 0⟩).fs ∧ P text.length (loopP text m ⟨pos, fs, p0, 0⟩).fs := by
  intro m
  induction m with
  | zero => intro pos h; omega
  | succ m ih =>
    intro pos hm hp fs hc hP hf
    by_cases hlt : pos < text.length
    · have hd := oneP_does text pos fs p0
      have hun : loopP text (m + 1) ⟨pos, fs, p0, 0⟩ = loopP text m (oneP text ⟨pos, fs, p0, 0⟩) := by
        conv => lhs; unfold loopP
        rw [if_pos ⟨rfl, hlt⟩]
      rw [hun] at hf ⊢
      cases ho : stepP text pos fs with
      | inl x =>
        obtain ⟨pl, e⟩ := x
        rw [ho] at hd
        obtain ⟨h1, h2, h3⟩ := hd
        rw [loopP_stop text m _ (fun h => h3 (h1.symm.trans h.1)), h1] at hf
        exact absurd hf h3
      | inr x =>
        obtain ⟨fs', pos'⟩ := x
        obtain ⟨hc', hp1, hp2⟩ := stepP_can hc ho
        rw [ho] at hd
        have hd' : oneP text ⟨pos, fs, p0, 0⟩ = ⟨pos', fs', p0, 0⟩ := hd
        rw [hd'] at hf ⊢
        exact ih pos' (by omega) hp2 fs' hc' (hstep pos fs fs' pos' hlt hc hP ho) hf
    · rw [loopP_stop text (m + 1) _ (fun h => hlt h.2)]
      obtain rfl : pos = text.length := by omega
      exact ⟨hc, hP⟩
theorem parse_ind (text : List UInt8) (P : Nat → List Fld → Prop) (h0 : P 0 []) (hstep : ∀ pos fs fs' pos', pos < text.length → CanP fs → P pos fs → stepP text pos fs = .inr (fs', pos') → P pos' fs')
    (hz : (parseP text).2.2 = 0) : CanP (parseP text).1 ∧ P text.length (parseP text).1 := by
  unfold parseP at hz ⊢
  by_cases h : 65536 < text.length
  · rw [if_pos h] at hz; exact absurd hz (by decide)
  · rw [if_neg h] at hz ⊢
    dsimp only at hz ⊢
    by_cases hf : (loopP text (text.length + 1) ⟨0, [], 0, 0⟩).failed ≠ 0
    · rw [if_pos hf] at hz; exact absurd hz hf
    · rw [if_neg hf]
      exact loop_ind text P hstep 0 (text.length + 1) 0 (by omega) (by omega) [] ⟨by simp, rfl, by simp [lastBody]⟩ h0 (by simpa using hf)
theorem parse_fail (text : List UInt8) (hz : (parseP text).2.2 ≠ 0) : (parseP text).1 = [] := by
  unfold parseP at hz ⊢
  by_cases h : 65536 < text.length
  · rw [if_pos h]
  · rw [if_neg h] at hz ⊢
    dsimp only at hz ⊢
    by_cases hf : (loopP text (text.length + 1) ⟨0, [], 0, 0⟩).failed ≠ 0
    · rw [if_pos hf]
    · rw [if_neg hf] at hz; exact absurd rfl hz
theorem parse_len (text : List UInt8) : (parseP text).1.length ≤ 64 := by
  by_cases hz : (parseP text).2.2 = 0
  · exact (parse_ind text (fun _ _ => True) trivial (fun _ _ _ _ _ _ _ _ => trivial) hz).1.len
  · rw [parse_fail text hz]; simp
end Go.Proofs.YtfeciafdioepiaaGreatDoor

/- Plain: what is printed is parsed back. -/
namespace Go.Proofs.YtfeciafdioepiaaGreatDoor
open Go.RowKit Go.Proofs Go.Proofs.YtfeciafdioepiaaGreatDoorW.PrintWords Go.Proofs.YtfeciafdioepiaaGreatDoor.PA

/-- Some steps of the parser. -/
def stepN (text : List UInt8) : Nat → Nat → List Fld → Option (Nat × List Fld)
  | 0, pos, fs => some (pos, fs)
  | n + 1, pos, fs => if pos < text.length then (match stepP text pos fs with
    | .inr (fs', pos') => stepN text n pos' fs'
    | .inl _ => none) else none
def Steps (text : List UInt8) (pos : Nat) (fs : List Fld) (pos' : Nat) (fs' : List Fld) : Prop := ∃ n, stepN text n pos fs = some (pos', fs')
theorem Steps.refl (text : List UInt8) (pos : Nat) (fs : List Fld) : Steps text pos fs pos fs := ⟨0, rfl⟩
theorem Steps.trans {text : List UInt8} {p1 p2 p3 : Nat} {f1 f2 f3 : List Fld} (h : Steps text p1 f1 p2 f2) (k : Steps text p2 f2 p3 f3) : Steps text p1 f1 p3 f3 := by
  obtain ⟨n, h⟩ := h
  obtain ⟨m, k⟩ := k
  refine ⟨n + m, ?_⟩
  induction n generalizing p1 f1 with
  | zero => simp only [stepN] at h; injection h with h; injection h with h1 h2; subst h1 h2; rw [Nat.zero_add]; exact k
  | succ n ih =>
    rw [show n + 1 + m = (n + m) + 1 by omega]
    unfold stepN at h ⊢
    split at h
    · rename_i hp
      rw [if_pos hp]
      cases hs : stepP text p1 f1 with
      | inl x => rw [hs] at h; cases h
      | inr x => rw [hs] at h; exact ih h
    · cases h
/-! ### one printed line -/
theorem foldW_out : ∀ (ws : List (List UInt8)) (out line : List UInt8) (e : Bool), foldW ws out line e = out ++ foldW ws [] line e
  | [], out, line, e => by simp [foldW]
  | x :: ws, out, line, e => by
    unfold foldW
    split
    · rw [foldW_out ws (out ++ (line ++ [10])), foldW_out ws ([] ++ (line ++ [10]))]; simp
    · exact foldW_out ws out _ false

/-! ### valid fields -/
end Go.Proofs.YtfeciafdioepiaaGreatDoor

/- Plain: Print of the program. -/
namespace Go.Proofs.YtfeciafdioepiaaGreatDoor
open Go.RowKit Go.Proofs Go.Proofs.YtfeciafdioepiaaGreatDoorW.PrintWords Go.Proofs.YtfeciafdioepiaaGreatDoor.PA

def printGo : List Fld → List UInt8 → List UInt8 × Int
  | [], out => if 65536 < out.length then ([], 5) else (out, 0)
  | f :: fs, out => if checkL f.name f.body = 0 then printGo fs (out ++ foldL f.name f.body) else ([], checkL f.name f.body)
def printP (fs : List Fld) : List UInt8 × Int := if 64 < fs.length then ([], 9) else printGo fs []
theorem foldW_len : ∀ (ws : List (List UInt8)) (out line : List UInt8) (e : Bool), (foldW ws out line e).length ≤ out.length + line.length + costW ws + 1
  | [], out, line, e => by simp [foldW]; omega
  | x :: ws, out, line, e => by
    unfold foldW
    rw [costW_cons]
    split
    · have := foldW_len ws (out ++ (line ++ [10])) (32 :: x) false
      simp only [List.length_append, List.length_cons, List.length_nil] at this ⊢; omega
    · have := foldW_len ws out (line ++ 32 :: x) false
      simp only [List.length_append, List.length_cons] at this ⊢; omega
theorem foldL_len (n b : List UInt8) : (foldL n b).length ≤ n.length + costW (wordsL b) + 2 := by
  have := foldW_len (wordsL b) [] (n ++ [58]) true
  unfold foldL; simp at this ⊢; omega
theorem foldL_small (n b : List UInt8) (hn : n.length ≤ 1100000) (hb : b.length ≤ 1100000) : (foldL n b).length ≤ 4000000 := by
  have h1 := foldL_len n b
  have h2 := wordsL_len b
  have h3 := wordsL_sum b
  unfold costW at h1; omega
theorem printGoF : ∀ (fs : List Fld) (out : List UInt8), (∀ f ∈ fs, f.name.length ≤ 1100000 ∧ f.body.length ≤ 1100000) → Ev (fun k => GV.Print.go k (fs.map toS) out) (mkS (printGo fs out).1, (printGo fs out).2)
  | [], out, _ => by
    show Ev (fun k => if 65536 < out.length then some ((⟨#[]⟩ : ByteArray), (5 : Int)) else some (mkS out, 0)) (mkS (if 65536 < out.length then (([] : List UInt8), (5 : Int)) else (out, 0)).1, (if 65536 < out.length then (([] : List UInt8), (5 : Int)) else (out, 0)).2)
    by_cases h : 65536 < out.length
    · refine Ev.ite_pos h (Ev.const ?_); rw [if_pos h]; rfl
    · refine Ev.ite_neg h (Ev.const ?_); rw [if_neg h]
  | f :: fs, out, hf => by
    obtain ⟨hn, hb⟩ := hf f (by simp)
    have hF := foldF f.name f.body hn hb
    have hsm := foldL_small f.name f.body hn hb
    show Ev (fun k => (GV.Fold.f k (mkS f.name) (mkS f.body)).bind fun p => if p.2 = 0 then (if p.1.size ≤ 4000000 then GV.Print.go k (fs.map toS) (out ++ p.1.data.toList) else none) else some ((⟨#[]⟩ : ByteArray), p.2)) _
    refine Ev.bind hF ?_
    by_cases h : checkL f.name f.body = 0
    · rw [if_pos h]
      have e : printGo (f :: fs) out = printGo fs (out ++ foldL f.name f.body) := by
        conv => lhs; unfold printGo
        rw [if_pos h]
      rw [e]
      refine Ev.ite_pos rfl (Ev.ite_pos (by rw [mkS_size]; exact hsm) ?_)
      rw [mkS_toList]
      exact printGoF fs _ (fun g hg => hf g (by simp [hg]))
    · rw [if_neg h]
      have e : printGo (f :: fs) out = ([], checkL f.name f.body) := by
        conv => lhs; unfold printGo
        rw [if_neg h]
      rw [e]
      exact Ev.ite_neg h (Ev.const rfl)
theorem printF (fs : List Fld) (hf : ∀ f ∈ fs, f.name.length ≤ 1100000 ∧ f.body.length ≤ 1100000) : Ev (fun k => GV.Print.f k (fs.map toS)) (mkS (printP fs).1, (printP fs).2) := by
  unfold GV.Print.f printP
  rw [List.length_map]
  by_cases h : 64 < fs.length
  · rw [if_pos h]; exact Ev.ite_pos h (Ev.const rfl)
  · rw [if_neg h]; exact Ev.ite_neg h (printGoF fs [] hf)
theorem printP_small (fs : List Fld) : (printP fs).1.length ≤ 65536 := by
  unfold printP
  split
  · simp
  · have key : ∀ (fs : List Fld) (out : List UInt8), (printGo fs out).1.length ≤ 65536 := by
      intro fs
      induction fs with
      | nil => intro out; unfold printGo; split <;> simp; omega
      | cons f fs ih => intro out; unfold printGo; split; exact ih _; simp
    exact key fs []
end Go.Proofs.YtfeciafdioepiaaGreatDoor
set_option linter.unusedVariables false
set_option linter.unusedSimpArgs false
namespace Go.Proofs.YtfeciafdioepiaaGreatDoor
open Go.RowKit Go.Proofs Go.Proofs.YtfeciafdioepiaaGreatDoorW.PrintWords Go.Proofs.YtfeciafdioepiaaGreatDoor.PA

theorem endL (l : List UInt8) (hl : l.length ≤ 1000000) : ∀ d k i : Nat, l.length - i = d → d < k → i ≤ l.length →
    bulletinref15_end.l0 k (mkS l) (i : Int) = some ((i + lineN (l.drop i) : Nat) : Int) := by
  intro d
  induction d with
  | zero =>
    intro k i hd hk hi
    obtain ⟨k, rfl⟩ : ∃ m, k = m + 1 := ⟨k - 1, by omega⟩
    have h1 : l.drop i = [] := List.drop_eq_nil_of_le (by omega)
    unfold bulletinref15_end.l0
    rw [if_neg (by rw [mkS_size]; omega), h1]
    simp [lineN, spanL]
  | succ d ih =>
    intro k i hd hk hi
    obtain ⟨k, rfl⟩ : ∃ m, k = m + 1 := ⟨k - 1, by omega⟩
    have hlt : i < l.length := by omega
    have h1 : l.drop i = l[i] :: l.drop (i + 1) := List.drop_eq_getElem_cons hlt
    unfold bulletinref15_end.l0
    rw [if_pos (by rw [mkS_size]; omega), if_pos (by omega), bt_mk l i hlt]
    by_cases hc : l[i] = 10
    · rw [if_pos (by rw [hc]; rfl), h1]
      simp [lineN, spanL, notNl, hc]
    · rw [if_neg (fun h => hc ((toNat_int l[i] 10 (by omega)).1 h)), wrap64_small (by omega) (by omega)]
      have := ih k (i + 1) (by omega) (by omega) (by omega)
      rw [show ((i : Int) + 1) = ((i + 1 : Nat) : Int) by omega, this, h1]
      have h2 : lineN (l[i] :: l.drop (i + 1)) = lineN (l.drop (i + 1)) + 1 := by
        have hn : notNl l[i] = true := by simp [notNl, hc]
        simp [lineN, spanL, hn]
      rw [h2]
      congr 2
      omega
theorem endF (l : List UInt8) (hl : l.length ≤ 1000000) (k i : Nat) (hk : l.length - i < k) (hi : i ≤ l.length) : bulletinref15_end.f k (mkS l) (i : Int) = some ((i + lineN (l.drop i) : Nat) : Int) :=
  endL l hl _ k i rfl hk hi
end Go.Proofs.YtfeciafdioepiaaGreatDoor
set_option linter.unusedVariables false
set_option linter.unusedSimpArgs false
namespace Go.Proofs.YtfeciafdioepiaaGreatDoor
open Go.RowKit Go.Proofs Go.Proofs.YtfeciafdioepiaaGreatDoorW.PrintWords Go.Proofs.YtfeciafdioepiaaGreatDoorW.PrintMore Go.Proofs.YtfeciafdioepiaaGreatDoor.PA

theorem Ev.of_mono {α : Type} {f : Nat → Option α} (hm : ∀ k, LeO (f k) (f (k + 1))) {K : Nat} {r : α} (h : f K = some r) : Ev f r := by
  refine ⟨K, fun k hk => ?_⟩
  obtain ⟨m, rfl⟩ : ∃ m, k = K + m := ⟨k - K, by omega⟩
  clear hk
  induction m with
  | zero => exact h
  | succ m ih => exact hm _ _ ih
theorem begins_one (c : UInt8) : ∃ v : Int, Ev (fun k => bulletinref03_Begins.f k (mkS [c])) (decide (sizeU c ≠ 0), (sizeU c : Int), v) := by
  have h : (bulletinref03_Begins.f 8 (mkS [c])).map (fun x => (x.1, x.2.1)) = some (decide (sizeU c ≠ 0), (sizeU c : Int)) := by
    refine all_u8 (P := fun c => (bulletinref03_Begins.f 8 (mkS [c])).map (fun x => (x.1, x.2.1)) = some (decide (sizeU c ≠ 0), (sizeU c : Int))) ?_ c
    decide +kernel
  cases hb : bulletinref03_Begins.f 8 (mkS [c]) with
  | none => rw [hb] at h; cases h
  | some x =>
    obtain ⟨b, n, v⟩ := x
    rw [hb] at h
    injection h with h
    injection h with h1 h2
    subst h1 h2
    generalize mkS [c] = s at *
    exact ⟨v, Ev.of_mono (f := fun k => bulletinref03_Begins.f k s) (fun k => bulletinref03_Begins.mono _ _) hb⟩
theorem lead_fix (c : UInt8) : sizeU c ≠ 0 → bulletinref03_lead.f 4 (c.toNat : Int) = some ((sizeU c : Int), ((c.toNat % modU (sizeU c) : Nat) : Int)) := by
  have key : ∀ c : UInt8, sizeU c ≠ 0 → bulletinref03_lead.f 4 (c.toNat : Int) = some ((sizeU c : Int), ((c.toNat % modU (sizeU c) : Nat) : Int)) := by
    apply all_u8
    decide +kernel
  exact key c
theorem lead_one (c : UInt8) (h : sizeU c ≠ 0) : Ev (fun k => bulletinref03_lead.f k (c.toNat : Int)) ((sizeU c : Int), ((c.toNat % modU (sizeU c) : Nat) : Int)) := by
  have hf := lead_fix c h
  generalize (c.toNat % modU (sizeU c) : Nat) = m at *
  generalize (sizeU c : Int) = s at *
  generalize (c.toNat : Int) = x at *
  exact Ev.of_mono (f := fun k => bulletinref03_lead.f k x) (fun k => bulletinref03_lead.mono _ _) hf
theorem least_n (n : Nat) (h1 : 1 ≤ n) (h4 : n ≤ 4) : bulletinref03_least.f (n : Int) = some (minU n : Int) := by
  have : n = 1 ∨ n = 2 ∨ n = 3 ∨ n = 4 := by omega
  rcases this with rfl | rfl | rfl | rfl <;> rfl
theorem most_n (n : Nat) (h1 : 1 ≤ n) (h4 : n ≤ 4) : bulletinref03_most.f (n : Int) = some (maxU n : Int) := by
  have : n = 1 ∨ n = 2 ∨ n = 3 ∨ n = 4 := by omega
  rcases this with rfl | rfl | rfl | rfl <;> rfl
theorem modU_le (n : Nat) : modU n ≤ 128 ∧ 0 < modU n := by
  unfold modU; split <;> omega
theorem min_le_max (n : Nat) : minU n ≤ maxU n ∧ maxU n ≤ 1114111 := by
  unfold minU maxU; split <;> omega

theorem l1_some (n : Nat) (h1 : 1 ≤ n) (h4 : n ≤ 4) (v : Int) : ∀ d i : Nat, n - i = d → ∀ lo hi : Int, ∃ R, Ev (fun k => bulletinref03_Begins.l1 k (n : Int) v lo hi (i : Int)) R := by
  intro d
  induction d with
  | zero =>
    intro i hd lo hi
    have key : ∀ R, Ev (fun _ : Nat => if mx lo (minU n : Int) ≥ 55296 then (if mn hi (maxU n : Int) ≤ 57343 then (some (false, 0, 0)) else (if mx lo (minU n : Int) > mn hi (maxU n : Int) then (some (false, 0, 0)) else (some (true, (n : Int), v)))) else (if mx lo (minU n : Int) > mn hi (maxU n : Int) then (some (false, 0, 0)) else (some (true, (n : Int), v)))) R → ∃ R, Ev (fun k => bulletinref03_Begins.l1 k (n : Int) v lo hi (i : Int)) R := by
      intro R hR
      refine ⟨R, Ev.next ?_⟩
      simp only [bulletinref03_Begins.l1]
      refine Ev.ite_neg (by omega) ?_
      rw [least_n n h1 h4, most_n n h1 h4]
      exact hR
    by_cases h5 : mx lo (minU n : Int) ≥ 55296
    · by_cases h6 : mn hi (maxU n : Int) ≤ 57343
      · exact key _ (Ev.ite_pos h5 (Ev.ite_pos h6 (Ev.const rfl)))
      · by_cases h7 : mx lo (minU n : Int) > mn hi (maxU n : Int)
        · exact key _ (Ev.ite_pos h5 (Ev.ite_neg h6 (Ev.ite_pos h7 (Ev.const rfl))))
        · exact key _ (Ev.ite_pos h5 (Ev.ite_neg h6 (Ev.ite_neg h7 (Ev.const rfl))))
    · by_cases h7 : mx lo (minU n : Int) > mn hi (maxU n : Int)
      · exact key _ (Ev.ite_neg h5 (Ev.ite_pos h7 (Ev.const rfl)))
      · exact key _ (Ev.ite_neg h5 (Ev.ite_neg h7 (Ev.const rfl)))
  | succ d ih =>
    intro i hd lo hi
    obtain ⟨R, h⟩ := ih (i + 1) (by omega) (wrap64 (64 * lo)) (wrap64 ((wrap64 (64 * hi)) + 63))
    refine ⟨R, Ev.next ?_⟩
    simp only [bulletinref03_Begins.l1]
    refine Ev.ite_pos (by omega) ?_
    rw [wrap_nat i (by omega)]
    exact h
theorem l1_full (n : Nat) (h1 : 1 ≤ n) (h4 : n ≤ 4) (v : Nat) : Ev (fun k => bulletinref03_Begins.l1 k (n : Int) (v : Int) (v : Int) (v : Int) (n : Int)) (if okVal n v then (true, (n : Int), (v : Int)) else (false, 0, 0)) := by
  refine Ev.next ?_
  simp only [bulletinref03_Begins.l1]
  refine Ev.ite_neg (by omega) ?_
  rw [least_n n h1 h4, most_n n h1 h4]
  simp only [Option.bind_some]
  obtain ⟨hm, hM⟩ := min_le_max n
  have hok : okVal n v = true ↔ (minU n ≤ v ∧ v ≤ maxU n ∧ ¬ (55296 ≤ v ∧ v ≤ 57343)) := by
    unfold okVal
    simp only [Bool.and_eq_true, decide_eq_true_iff, Bool.not_eq_true', Bool.and_eq_false_iff, decide_eq_false_iff_not]
    omega
  generalize minU n = a at *
  generalize maxU n = b at *
  have e1 : mx (v : Int) (a : Int) = ((max v a : Nat) : Int) := by unfold mx; split <;> omega
  have e2 : mn (v : Int) (b : Int) = ((min v b : Nat) : Int) := by unfold mn; split <;> omega
  rw [e1, e2]
  by_cases h : okVal n v = true
  · rw [if_pos h]
    have h' := hok.1 h
    by_cases h5 : ((max v a : Nat) : Int) ≥ 55296
    · exact Ev.ite_pos h5 (Ev.ite_neg (by omega) (Ev.ite_neg (by omega) (Ev.const rfl)))
    · exact Ev.ite_neg h5 (Ev.ite_neg (by omega) (Ev.const rfl))
  · rw [if_neg h]
    have h' : ¬ (a ≤ v ∧ v ≤ b ∧ ¬ (55296 ≤ v ∧ v ≤ 57343)) := fun x => h (hok.2 x)
    by_cases h5 : ((max v a : Nat) : Int) ≥ 55296
    · refine Ev.ite_pos h5 ?_
      by_cases h6 : ((min v b : Nat) : Int) ≤ 57343
      · exact Ev.ite_pos h6 (Ev.const rfl)
      · exact Ev.ite_neg h6 (Ev.ite_pos (by omega) (Ev.const rfl))
    · exact Ev.ite_neg h5 (Ev.ite_pos (by omega) (Ev.const rfl))
theorem wrap64_mid {x : Int} (h0 : 0 ≤ x) (h1 : x ≤ 1000000000000) : wrap64 x = x := by unfold wrap64; omega
theorem wrap_digit (v c : Nat) (hv : v ≤ 33554432) (h1 : 128 ≤ c) (h2 : c ≤ 191) : wrap64 ((wrap64 ((wrap64 (64 * (v : Int))) + (wrap64 (c : Int)))) - 128) = ((v * 64 + c % 64 : Nat) : Int) := by
  rw [wrap64_mid (x := 64 * (v : Int)) (by omega) (by omega), wrap64_mid (x := (c : Int)) (by omega) (by omega), wrap64_mid (x := 64 * (v : Int) + (c : Int)) (by omega) (by omega), wrap64_mid (by omega) (by omega)]
  omega
theorem cont_int (b : UInt8) : isCont b = true ↔ (128 ≤ b.toNat ∧ b.toNat ≤ 191) := by
  unfold isCont
  have := b.toNat_lt
  rw [decide_eq_true_iff]; omega
/-- The rounds over the bytes that follow. -/
theorem l0_rounds (l : List UInt8) (hl : l.length ≤ 4) (n : Nat) : ∀ d i v : Nat, l.length - i = d → i ≤ l.length → (v + 1) * 64 ^ d ≤ 33554432 → ∀ R,
    ((l.drop i).all isCont = true → Ev (fun k => bulletinref03_Begins.l1 k (n : Int) (((l.drop i).foldl (fun v b => v * 64 + b.toNat % 64) v : Nat) : Int) (((l.drop i).foldl (fun v b => v * 64 + b.toNat % 64) v : Nat) : Int) (((l.drop i).foldl (fun v b => v * 64 + b.toNat % 64) v : Nat) : Int) (l.length : Int)) R) →
    Ev (fun k => bulletinref03_Begins.l0 k (mkS l) (n : Int) (v : Int) (i : Int)) (if (l.drop i).all isCont then R else (false, 0, 0)) := by
  intro d
  induction d with
  | zero =>
    intro i v hd hi hv R hR
    have h0 : l.drop i = [] := List.drop_eq_nil_of_le (by omega)
    rw [h0] at hR ⊢
    refine Ev.next ?_
    simp only [bulletinref03_Begins.l0, mkS_size]
    refine Ev.ite_neg (by omega) ?_
    exact hR rfl
  | succ d ih =>
    intro i v hd hi hv R hR
    have hlt : i < l.length := by omega
    have hdr : l.drop i = l[i] :: l.drop (i + 1) := List.drop_eq_getElem_cons hlt
    have hp : 64 ^ (d + 1) = 64 ^ d * 64 := Nat.pow_succ ..
    have hp0 : 0 < 64 ^ d := Nat.pow_pos (by omega)
    have hb := l[i].toNat_lt
    have hv1 : (v + 1) * 64 ≤ 33554432 := by
      refine Nat.le_trans ?_ hv
      rw [hp, ← Nat.mul_assoc]
      exact Nat.mul_le_mul_right 64 (Nat.le_mul_of_pos_right _ hp0)
    have hv2 : (v * 64 + l[i].toNat % 64 + 1) * 64 ^ d ≤ 33554432 := by
      refine Nat.le_trans ?_ hv
      rw [hp, Nat.mul_comm (64 ^ d) 64, ← Nat.mul_assoc]
      exact Nat.mul_le_mul_right _ (by omega)
    refine Ev.next ?_
    simp only [bulletinref03_Begins.l0, mkS_size]
    refine Ev.ite_pos (by omega) (Ev.ite_pos (by omega) ?_)
    rw [bt_mk l i hlt, hdr, List.all_cons]
    by_cases hc : isCont l[i] = true
    · have hc' := (cont_int _).1 hc
      refine Ev.ite_neg (by omega) (Ev.ite_neg (by omega) ?_)
      rw [wrap_digit v l[i].toNat (by omega) hc'.1 hc'.2, wrap_nat i (by omega), hc, Bool.true_and]
      refine ih (i + 1) _ (by omega) (by omega) hv2 R ?_
      intro ha
      have := hR (by rw [hdr, List.all_cons, hc, ha]; rfl)
      rw [hdr] at this
      exact this
    · have hc' : ¬ (128 ≤ l[i].toNat ∧ l[i].toNat ≤ 191) := fun x => hc ((cont_int _).2 x)
      have hcf : isCont l[i] = false := by simpa using hc
      rw [hcf, Bool.false_and]
      by_cases h1 : (l[i].toNat : Int) < 128
      · exact Ev.ite_pos h1 (Ev.const rfl)
      · exact Ev.ite_neg h1 (Ev.ite_pos (by omega) (Ev.const rfl))
theorem pow64 (d : Nat) (h : d ≤ 3) : 64 ^ d ≤ 262144 := by
  have : d = 0 ∨ d = 1 ∨ d = 2 ∨ d = 3 := by omega
  rcases this with rfl | rfl | rfl | rfl <;> decide
theorem begins_gen (c : UInt8) (t : List UInt8) (h : sizeU c ≠ 0) (hl : (c :: t).length ≤ sizeU c) (R : Bool × Int × Int)
    (hR : t.all isCont = true → Ev (fun k => bulletinref03_Begins.l1 k (sizeU c : Int) ((valL (modU (sizeU c)) (c :: t) : Nat) : Int) ((valL (modU (sizeU c)) (c :: t) : Nat) : Int) ((valL (modU (sizeU c)) (c :: t) : Nat) : Int) ((c :: t).length : Int)) R) :
    Ev (fun k => bulletinref03_Begins.f k (mkS (c :: t))) (if t.all isCont then R else (false, 0, 0)) := by
  have hs := (sizeU_of c).1
  have hlc : (c :: t).length = t.length + 1 := rfl
  have hb : bt (mkS (c :: t)) 0 = (c.toNat : Int) := bt_mk (c :: t) 0 (by omega)
  have hm := modU_le (sizeU c)
  unfold bulletinref03_Begins.f
  simp only [mkS_size]
  rw [hb]
  refine Ev.ite_pos (by omega) (Ev.bind (lead_one c h) ?_)
  refine Ev.ite_neg (by omega) ?_
  have hd : decide (((c :: t).length : Int) > (sizeU c : Int)) = false := decide_eq_false (by omega)
  rw [hd]
  refine Ev.next ?_
  simp only [bulletinref03_Begins.j0]
  refine Ev.ite_neg (by simp) ?_
  have hv : c.toNat % modU (sizeU c) < modU (sizeU c) := Nat.mod_lt _ hm.2
  have hv2 : c.toNat % modU (sizeU c) + 1 ≤ 128 := by omega
  have := l0_rounds (c :: t) (by omega) (sizeU c) ((c :: t).length - 1) 1 (c.toNat % modU (sizeU c)) rfl (by omega)
    (Nat.le_trans (Nat.mul_le_mul hv2 (pow64 _ (by omega))) (by omega)) R (fun ha => hR ha)
  exact this
theorem begins_full (c : UInt8) (t : List UInt8) (h : sizeU c ≠ 0) (hl : (c :: t).length = sizeU c) :
    ∃ v : Int, Ev (fun k => bulletinref03_Begins.f k (mkS (c :: t))) (okAll (sizeU c) (c :: t), (if okAll (sizeU c) (c :: t) then (sizeU c : Int) else 0), v) ∧ (okAll (sizeU c) (c :: t) = true → v = ((valL (modU (sizeU c)) (c :: t) : Nat) : Int)) := by
  have hs := (sizeU_of c).1
  have hlc : (c :: t).length = t.length + 1 := rfl
  have hg := begins_gen c t h (by omega) _ (fun _ => by rw [hl]; exact l1_full (sizeU c) (by omega) (by omega) (valL (modU (sizeU c)) (c :: t)))
  have hok : okAll (sizeU c) (c :: t) = (t.all isCont && okVal (sizeU c) (valL (modU (sizeU c)) (c :: t))) := rfl
  by_cases h1 : t.all isCont = true
  · by_cases h2 : okVal (sizeU c) (valL (modU (sizeU c)) (c :: t)) = true
    · rw [hok, h1, h2]
      rw [if_pos h1, if_pos h2] at hg
      exact ⟨_, hg, fun _ => rfl⟩
    · have h2' : okVal (sizeU c) (valL (modU (sizeU c)) (c :: t)) = false := by simpa using h2
      rw [hok, h1, h2']
      rw [if_pos h1, if_neg h2] at hg
      exact ⟨_, hg, fun h => by simp at h⟩
  · have h1' : t.all isCont = false := by simpa using h1
    rw [hok, h1']
    rw [if_neg h1] at hg
    exact ⟨_, hg, fun h => by simp at h⟩
theorem begins_part (c : UInt8) (t : List UInt8) (h : sizeU c ≠ 0) (hl : (c :: t).length ≤ sizeU c) : ∃ R, Ev (fun k => bulletinref03_Begins.f k (mkS (c :: t))) R := by
  have hs := (sizeU_of c).1
  obtain ⟨R, hR⟩ := l1_some (sizeU c) (by omega) (by omega) ((valL (modU (sizeU c)) (c :: t) : Nat) : Int) _ (c :: t).length rfl ((valL (modU (sizeU c)) (c :: t) : Nat) : Int) ((valL (modU (sizeU c)) (c :: t) : Nat) : Int)
  exact ⟨_, begins_gen c t h hl R (fun _ => hR)⟩
/-- The reference's First. -/
def FirstRes (l : List UInt8) (R : Int × Int × Int) : Prop := match decR l with
  | some (v, n) => R = ((v : Int), (n : Int), 0)
  | none => R.2.2 ≠ 0
theorem refFirst (l : List UInt8) (h0 : l ≠ []) : ∃ R, Ev (fun k => bulletinref03_First.f k (mkS l)) R ∧ FirstRes l R := by
  obtain ⟨c, t, rfl⟩ : ∃ c t, l = c :: t := by
    cases l with
    | nil => exact absurd rfl h0
    | cons c t => exact ⟨c, t, rfl⟩
  have hs := (sizeU_of c).1
  have hlc : (c :: t).length = t.length + 1 := rfl
  have e1 : (mkS (c :: t)).extract 0 1 = mkS [c] := by rw [extract_mk, mkS_toList]; rfl
  obtain ⟨v1, h1⟩ := begins_one c
  unfold bulletinref03_First.f
  simp only [mkS_size]
  rw [e1]
  by_cases hz : sizeU c = 0
  · have hd : decR (c :: t) = none := by simp only [decR]; rw [if_pos (.inl hz)]
    refine ⟨(0, 0, 6), ?_, by unfold FirstRes; rw [hd]; decide⟩
    refine Ev.ite_pos (by omega) (Ev.ite_pos (by omega) (Ev.bind h1 (Ev.ite_neg ?_ (Ev.const rfl))))
    simp [hz]
  · by_cases hn : sizeU c ≤ (c :: t).length
    · have e2 : (mkS (c :: t)).extract 0 ((sizeU c : Int)).toNat = mkS ((c :: t).take (sizeU c)) := by rw [extract_mk, mkS_toList, Int.toNat_natCast]; rfl
      have ht : (c :: t).take (sizeU c) = c :: t.take (sizeU c - 1) := by
        conv => lhs; rw [show sizeU c = (sizeU c - 1) + 1 by omega]
        rfl
      have htl : (c :: t.take (sizeU c - 1)).length = sizeU c := by rw [← ht, List.length_take]; omega
      obtain ⟨v2, h2, h3⟩ := begins_full c (t.take (sizeU c - 1)) hz htl
      rw [← ht] at h2 h3
      have hd : decR (c :: t) = if okAll (sizeU c) ((c :: t).take (sizeU c)) then some (valL (modU (sizeU c)) ((c :: t).take (sizeU c)), sizeU c) else none := by
        simp only [decR]; rw [if_neg (by omega)]
      rw [← e2] at h2
      by_cases hok : okAll (sizeU c) ((c :: t).take (sizeU c)) = true
      · rw [if_pos hok] at hd
        refine ⟨(((valL (modU (sizeU c)) ((c :: t).take (sizeU c)) : Nat) : Int), (sizeU c : Int), 0), ?_, by unfold FirstRes; rw [hd]⟩
        refine Ev.ite_pos (by omega) (Ev.ite_pos (by omega) (Ev.bind h1 (Ev.ite_pos (by simp [hz]) (Ev.ite_pos (by simp only [] ; omega) (Ev.ite_pos (by simp only []; omega) (Ev.ite_pos (by simp only []; omega) ?_))))))
        refine Ev.bind h2 (Ev.ite_pos hok (Ev.const ?_))
        rw [h3 hok]
      · rw [if_neg hok] at hd
        refine ⟨(0, 0, 3), ?_, by unfold FirstRes; rw [hd]; decide⟩
        refine Ev.ite_pos (by omega) (Ev.ite_pos (by omega) (Ev.bind h1 (Ev.ite_pos (by simp [hz]) (Ev.ite_pos (by simp only [] ; omega) (Ev.ite_pos (by simp only []; omega) (Ev.ite_pos (by simp only []; omega) ?_))))))
        exact Ev.bind h2 (Ev.ite_neg hok (Ev.const rfl))
    · have hd : decR (c :: t) = none := by simp only [decR]; rw [if_pos (.inr (by omega))]
      obtain ⟨R, h2⟩ := begins_part c t hz (by omega)
      have h1n : (decide (sizeU c ≠ 0)) = true := by simp [hz]
      by_cases hr : R.1 = true
      · refine ⟨(0, 0, 23), ?_, by unfold FirstRes; rw [hd]; decide⟩
        exact Ev.ite_pos (by omega) (Ev.ite_pos (by omega) (Ev.bind h1 (Ev.ite_pos h1n (Ev.ite_neg (by simp only [] ; omega) (Ev.bind h2 (Ev.ite_pos hr (Ev.const rfl)))))))
      · refine ⟨(0, 0, 3), ?_, by unfold FirstRes; rw [hd]; decide⟩
        exact Ev.ite_pos (by omega) (Ev.ite_pos (by omega) (Ev.bind h1 (Ev.ite_pos h1n (Ev.ite_neg (by simp only [] ; omega) (Ev.bind h2 (Ev.ite_neg hr (Ev.const rfl)))))))

def AllEnd (e : Option Nat) (p c : Int) : Prop := match e with
  | none => p = 0 ∧ c = 0
  | some q => p = (q : Int) ∧ c ≠ 0
theorem refAll (l : List UInt8) (hl : l.length ≤ 1000000) : ∀ f i : Nat, l.length - i ≤ f → i ≤ l.length → ∀ rs os : List Int, rs.length ≤ i → os.length ≤ i →
    ∃ p c : Int, Ev (fun k => bulletinref03_All.l0 k (mkS l) rs os (i : Int)) (rs ++ (runesG f i (l.drop i)).1.map (fun x => (x.2 : Int)), os ++ (runesG f i (l.drop i)).1.map (fun x => (x.1 : Int)), p, c) ∧ AllEnd (runesG f i (l.drop i)).2 p c := by
  intro f
  induction f with
  | zero =>
    intro i hf hi rs os hr ho
    refine ⟨0, 0, ?_, by unfold AllEnd runesG; exact ⟨rfl, rfl⟩⟩
    refine Ev.next ?_
    simp only [bulletinref03_All.l0, mkS_size]
    refine Ev.ite_neg (by omega) (Ev.const ?_)
    simp [runesG]
  | succ f ih =>
    intro i hf hi rs os hr ho
    by_cases hlt : i < l.length
    · have hne : l.drop i ≠ [] := by
        intro h
        have := congrArg List.length h
        rw [List.length_drop] at this
        simp at this; omega
      have e1 : (mkS l).extract ((i : Int)).toNat l.length = mkS (l.drop i) := by
        rw [Int.toNat_natCast, extract_mk, mkS_toList, List.take_of_length_le]; rw [List.length_drop]; omega
      obtain ⟨R, h1, h2⟩ := refFirst (l.drop i) hne
      rw [← e1] at h1
      cases hd : decR (l.drop i) with
      | none =>
        unfold FirstRes at h2
        rw [hd] at h2
        rw [runesG_none hne hd]
        refine ⟨(i : Int), R.2.2, ?_, ⟨rfl, h2⟩⟩
        refine Ev.next ?_
        simp only [bulletinref03_All.l0, mkS_size]
        refine Ev.ite_pos (by omega) (Ev.ite_pos (by omega) (Ev.ite_pos (by omega) (Ev.bind h1 (Ev.ite_neg h2 (Ev.const ?_)))))
        simp
      | some q =>
        obtain ⟨v, n⟩ := q
        unfold FirstRes at h2
        rw [hd] at h2
        subst h2
        obtain ⟨hp1, hp2, hp3, hp4⟩ := decR_pos hd
        rw [List.length_drop] at hp2
        rw [runesG_some hd, List.drop_drop]
        obtain ⟨p, c, h3, h4⟩ := ih (i + n) (by omega) (by omega) (rs ++ [(v : Int)]) (os ++ [(i : Int)]) (by simp; omega) (by simp; omega)
        refine ⟨p, c, ?_, h4⟩
        refine Ev.next ?_
        simp only [bulletinref03_All.l0, mkS_size]
        refine Ev.ite_pos (by omega) (Ev.ite_pos (by omega) (Ev.ite_pos (by omega) (Ev.bind h1 (Ev.ite_pos rfl (Ev.ite_pos (by omega) (Ev.ite_pos (by omega) ?_))))))
        show Ev (fun k => bulletinref03_All.l0 k (mkS l) (rs ++ [(v : Int)]) (os ++ [(i : Int)]) (wrap64 ((i : Int) + (n : Int)))) _
        rw [wrap_add i n (by omega)]
        refine h3.is ?_
        simp
    · have h0 : l.drop i = [] := List.drop_eq_nil_of_le (by omega)
      rw [h0, runesG_nil]
      refine ⟨0, 0, ?_, ⟨rfl, rfl⟩⟩
      refine Ev.next ?_
      simp only [bulletinref03_All.l0, mkS_size]
      refine Ev.ite_neg (by omega) (Ev.const ?_)
      simp
theorem refControl (v : Nat) : bulletinref03_Control.f (v : Int) = some (ctrlU v) := by
  unfold bulletinref03_Control.f ctrlU
  by_cases h1 : v ≤ 31
  · rw [if_pos (by omega)]; simp [h1]
  · rw [if_neg (by omega)]
    have h1' : decide (v ≤ 31) = false := decide_eq_false h1
    by_cases h2 : 127 ≤ v
    · rw [if_pos (by omega)]
      by_cases h3 : v ≤ 159
      · rw [if_pos (by omega)]; simp [h2, h3]
      · rw [if_neg (by omega)]
        by_cases h4 : v = 8232
        · rw [if_pos (by omega)]; simp [h4]
        · rw [if_neg (by omega)]
          by_cases h5 : v = 8233
          · subst h5; rfl
          · have : ((v : Int) == 8233) = false := by rw [beq_eq_false_iff_ne]; omega
            rw [this]; simp [h1, h3, h4, h5]
    · rw [if_neg (by omega), if_neg (by omega)]
      have : ((v : Int) == 8233) = false := by rw [beq_eq_false_iff_ne]; omega
      rw [this]
      have h4 : v ≠ 8232 := by omega
      have h5 : v ≠ 8233 := by omega
      simp [h1, h2, h4, h5]
theorem rd_map {α : Type} (g : α → Int) (xs : List α) (i : Nat) (h : i < xs.length) : rd (xs.map g) (i : Int) = g xs[i] := by
  unfold rd
  rw [Int.toNat_natCast, List.getD_eq_getElem?_getD, List.getElem?_map, List.getElem?_eq_getElem h]; rfl
theorem refBadL (xs : List (Nat × Nat)) (hx : xs.length ≤ 1000000) (p c : Int) : ∀ d i : Nat, xs.length - i = d → i ≤ xs.length →
    Ev (fun k => bulletinref15_bad.l0 k (xs.map (fun x => (x.2 : Int))) (xs.map (fun x => (x.1 : Int))) p c (i : Int)) (match (xs.drop i).find? (fun x => badV x.2) with | some x => (x.1 : Int) | none => if c = 0 then -1 else p) := by
  intro d
  induction d with
  | zero =>
    intro i hd hi
    have h0 : xs.drop i = [] := List.drop_eq_nil_of_le (by omega)
    rw [h0]
    refine Ev.next ?_
    simp only [bulletinref15_bad.l0, List.length_map]
    refine Ev.ite_neg (by omega) ?_
    show Ev (fun n => if c = 0 then some (-1 : Int) else some p) (if c = 0 then -1 else p)
    by_cases h : c = 0
    · exact Ev.rpos h (Ev.ite_pos h (Ev.const rfl))
    · exact Ev.rneg h (Ev.ite_neg h (Ev.const rfl))
  | succ d ih =>
    intro i hd hi
    have hlt : i < xs.length := by omega
    have hdr : xs.drop i = xs[i] :: xs.drop (i + 1) := List.drop_eq_getElem_cons hlt
    refine Ev.next ?_
    simp only [bulletinref15_bad.l0, List.length_map]
    refine Ev.ite_pos (by omega) (Ev.ite_pos (by omega) ?_)
    rw [rd_map (fun x : Nat × Nat => (x.2 : Int)) xs i hlt, rd_map (fun x : Nat × Nat => (x.1 : Int)) xs i hlt]
    rw [refControl, wrap_nat i (by omega), hdr, List.find?_cons]
    simp only [Option.bind_some]
    by_cases h1 : ctrlU xs[i].2 = true
    · refine Ev.ite_pos h1 ?_
      by_cases h2 : xs[i].2 = 9
      · refine Ev.ite_pos (by omega) ?_
        have : badV xs[i].2 = false := by unfold badV; simp [h2]
        rw [this]
        exact ih (i + 1) (by omega) (by omega)
      · refine Ev.ite_neg (by omega) (Ev.ite_pos (by omega) (Ev.const ?_))
        have : badV xs[i].2 = true := by unfold badV; simp [h1, h2]
        rw [this]
    · refine Ev.ite_neg h1 ?_
      have : badV xs[i].2 = false := by unfold badV; simp [h1]
      rw [this]
      exact ih (i + 1) (by omega) (by omega)
theorem runesG_len (f : Nat) : ∀ k l, (runesG f k l).1.length ≤ f := by
  induction f with
  | zero => intro k l; simp [runesG]
  | succ f ih =>
    intro k l
    by_cases h0 : l = []
    · subst h0; rw [runesG_nil]; simp
    · cases hd : decR l with
      | none => rw [runesG_none h0 hd]; simp
      | some q =>
        obtain ⟨v, n⟩ := q
        rw [runesG_some hd]
        have := ih (k + n) (l.drop n)
        simp; omega
theorem refBadF (l : List UInt8) (hl : l.length ≤ 1000000) : Ev (fun k => bulletinref15_bad.f k (mkS l)) (badU l) := by
  obtain ⟨p, c, h1, h2⟩ := refAll l hl l.length 0 (by omega) (by omega) [] [] (by simp) (by simp)
  rw [List.drop_zero] at h1 h2
  have hr : runesG l.length 0 l = runesU l := rfl
  rw [hr] at h1 h2
  simp only [List.nil_append] at h1
  unfold bulletinref15_bad.f bulletinref03_All.f
  refine Ev.bind h1 ?_
  have hx : (runesU l).1.length ≤ 1000000 := Nat.le_trans (runesG_len _ _ _) hl
  refine (refBadL (runesU l).1 hx p c _ 0 rfl (by omega)).is ?_
  rw [List.drop_zero]
  unfold badU AllEnd at *
  cases hf : (runesU l).1.find? (fun x => badV x.2) with
  | some x => rfl
  | none =>
    cases he : (runesU l).2 with
    | none => rw [he] at h2; simp [h2.2]
    | some q => rw [he] at h2; simp only []; rw [if_neg h2.2, h2.1]
end Go.Proofs.YtfeciafdioepiaaGreatDoor
set_option linter.unusedVariables false
set_option linter.unusedSimpArgs false
namespace Go.Proofs.YtfeciafdioepiaaGreatDoor
open Go.RowKit Go.Proofs Go.Proofs.YtfeciafdioepiaaGreatDoorW.PrintWords Go.Proofs.YtfeciafdioepiaaGreatDoor.PA

theorem extract_line (l : List UInt8) (i : Nat) : (mkS l).extract i (i + lineN (l.drop i)) = mkS ((l.drop i).take (lineN (l.drop i))) := by
  rw [extract_mk, mkS_toList]
  congr 2
  omega
end Go.Proofs.YtfeciafdioepiaaGreatDoor
set_option linter.unusedVariables false
set_option linter.unusedSimpArgs false
namespace Go.Proofs.YtfeciafdioepiaaGreatDoor
open Go.RowKit Go.Proofs Go.Proofs.YtfeciafdioepiaaGreatDoorW.PrintWords Go.Proofs.YtfeciafdioepiaaGreatDoorW.PrintMore Go.Proofs.YtfeciafdioepiaaGreatDoor.PA

/-- What a body's check answers, from a line's offset on; f: more than enough rounds. -/
def bodyG : Nat → Nat → List UInt8 → Int × Int
  | 0, _, _ => (0, 0)
  | f + 1, i, l => if l = [] then (0, 0) else if lineN l = l.length then (((i + l.length : Nat) : Int), 4)
    else if 998 < lineN l then (((i + 998 : Nat) : Int), 5)
    else if 0 ≤ badU (l.take (lineN l)) then ((i : Int) + badU (l.take (lineN l)), 6)
    else bodyG f (i + (lineN l + 1)) (l.drop (lineN l + 1))
def bodyU (l : List UInt8) : Int × Int := bodyG l.length 0 l
theorem bodyG_nil (f i : Nat) : bodyG f i [] = (0, 0) := by cases f <;> simp [bodyG]
theorem runesG_off (f : Nat) : ∀ k l, (∀ x ∈ (runesG f k l).1, x.1 ≤ k + l.length) ∧ ∀ p, (runesG f k l).2 = some p → p ≤ k + l.length := by
  induction f with
  | zero => intro k l; simp [runesG]
  | succ f ih =>
    intro k l
    by_cases h0 : l = []
    · subst h0; rw [runesG_nil]; simp
    · cases hd : decR l with
      | none =>
        rw [runesG_none h0 hd]
        refine ⟨by simp, fun p hp => ?_⟩
        injection hp with hp; omega
      | some q =>
        obtain ⟨v, n⟩ := q
        rw [runesG_some hd]
        obtain ⟨h1, h2⟩ := ih (k + n) (l.drop n)
        have hn := (decR_pos hd).2.1
        rw [List.length_drop] at h1 h2
        refine ⟨fun x hx => ?_, fun p hp => ?_⟩
        · rcases List.mem_cons.1 hx with rfl | hx
          · simp only []; omega
          · have := h1 x hx; omega
        · have := h2 p hp; omega
theorem badU_le (l : List UInt8) : -1 ≤ badU l ∧ badU l ≤ (l.length : Int) := by
  obtain ⟨h1, h2⟩ := runesG_off l.length 0 l
  have hr : runesG l.length 0 l = runesU l := rfl
  rw [hr] at h1 h2
  unfold badU
  cases hf : (runesU l).1.find? (fun x => badV x.2) with
  | some x =>
    have := h1 x (List.mem_of_find?_eq_some hf)
    simp only []; omega
  | none =>
    cases he : (runesU l).2 with
    | none => simp only []; omega
    | some q => have := h2 q he; simp only []; omega
theorem drop_ne {l : List UInt8} {i : Nat} (h : i < l.length) : l.drop i ≠ [] := by
  intro h1
  have := congrArg List.length h1
  rw [List.length_drop] at this
  simp at this; omega
theorem checkBody_loop (l : List UInt8) (hl : l.length ≤ 900000) : ∀ f i : Nat, l.length - i ≤ f → i ≤ l.length → Ev (fun k => PC.article_CheckBody.l0 k (mkS l) (i : Int)) (bodyG f i (l.drop i)) := by
  intro f
  induction f with
  | zero =>
    intro i hf hi
    refine Ev.next ?_
    simp only [PC.article_CheckBody.l0, mkS_size]
    exact Ev.ite_neg (by omega) (Ev.const rfl)
  | succ f ih =>
    intro i hf hi
    by_cases hlt : i < l.length
    · have hne := drop_ne hlt
      have e1 : (mkS l).extract ((i : Int)).toNat l.length = mkS (l.drop i) := by
        rw [Int.toNat_natCast, extract_mk, mkS_toList, List.take_of_length_le]; rw [List.length_drop]; omega
      have hld : (l.drop i).length = l.length - i := List.length_drop ..
      have hln := lineN_le (l.drop i)
      have hcut : GV.Cut.f (mkS (l.drop i)) ⟨#[10]⟩ = some (mkS ((l.drop i).take (lineN (l.drop i))), mkS ((l.drop i).drop (lineN (l.drop i) + 1)), hasNl (l.drop i)) := by
        unfold GV.Cut.f
        rw [if_pos ⟨rfl, by rw [mkS_size]; omega⟩, mkS_toList]
      refine Ev.next ?_
      simp only [PC.article_CheckBody.l0, mkS_size]
      rw [e1, hcut]
      refine Ev.ite_pos (by omega) (Ev.ite_pos (by omega) (Ev.ite_pos (by omega) ?_))
      simp only [Option.bind_some, mkS_size]
      unfold bodyG
      rw [if_neg hne]
      have htk : ((l.drop i).take (lineN (l.drop i))).length = lineN (l.drop i) := by rw [List.length_take]; omega
      rw [htk]
      by_cases h1 : lineN (l.drop i) = (l.drop i).length
      · rw [if_pos h1]
        refine Ev.ite_neg (by unfold hasNl; simp; omega) (Ev.const ?_)
        rw [show i + (l.drop i).length = l.length by omega]
      · rw [if_neg h1]
        refine Ev.ite_pos (by unfold hasNl; simp; omega) ?_
        by_cases h2 : 998 < lineN (l.drop i)
        · rw [if_pos h2]
          refine Ev.ite_pos (by omega) (Ev.const ?_)
          rw [show (998 : Int) = ((998 : Nat) : Int) from rfl, wrap_add i 998 (by omega)]
        · rw [if_neg h2]
          refine Ev.ite_neg (by omega) ?_
          have hbad : GV.badByte.f (mkS ((l.drop i).take (lineN (l.drop i)))) = some (badU ((l.drop i).take (lineN (l.drop i)))) := by
            unfold GV.badByte.f
            rw [if_pos (by rw [mkS_size]; omega), mkS_toList]
          rw [hbad]
          simp only [Option.bind_some]
          have hb := badU_le ((l.drop i).take (lineN (l.drop i)))
          rw [htk] at hb
          by_cases h3 : 0 ≤ badU ((l.drop i).take (lineN (l.drop i)))
          · rw [if_pos h3]
            refine Ev.ite_pos h3 (Ev.const ?_)
            rw [wrap64_small (by omega) (by omega)]
          · rw [if_neg h3]
            refine Ev.ite_neg h3 ?_
            have hw : wrap64 ((i : Int) + wrap64 ((lineN (l.drop i) : Int) + 1)) = ((i + (lineN (l.drop i) + 1) : Nat) : Int) := by
              rw [wrap_nat _ (by omega), wrap_add _ _ (by omega)]
            rw [hw, List.drop_drop]
            exact ih _ (by omega) (by omega)
    · rw [List.drop_eq_nil_of_le (by omega), bodyG_nil]
      refine Ev.next ?_
      simp only [PC.article_CheckBody.l0, mkS_size]
      exact Ev.ite_neg (by omega) (Ev.const rfl)
theorem checkBodyF (l : List UInt8) (hl : l.length ≤ 900000) : Ev (fun k => PC.article_CheckBody.f k (mkS l)) (bodyU l) := by
  have := checkBody_loop l hl l.length 0 (by omega) (by omega)
  rw [List.drop_zero] at this
  exact this
theorem refEndE (l : List UInt8) (hl : l.length ≤ 1000000) (i : Nat) (hi : i ≤ l.length) : Ev (fun k => bulletinref15_end.f k (mkS l) (i : Int)) ((i + lineN (l.drop i) : Nat) : Int) :=
  ⟨l.length - i + 1, fun k hk => endF l hl k i (by omega) hi⟩
theorem refBody_loop (l : List UInt8) (hl : l.length ≤ 900000) : ∀ f i : Nat, l.length - i ≤ f → i ≤ l.length → Ev (fun k => bulletinref15_Body.l0 k (mkS l) (i : Int)) (bodyG f i (l.drop i)) := by
  intro f
  induction f with
  | zero =>
    intro i hf hi
    refine Ev.next ?_
    simp only [bulletinref15_Body.l0, mkS_size]
    exact Ev.ite_neg (by omega) (Ev.const rfl)
  | succ f ih =>
    intro i hf hi
    by_cases hlt : i < l.length
    · have hne := drop_ne hlt
      have hld : (l.drop i).length = l.length - i := List.length_drop ..
      have hln := lineN_le (l.drop i)
      have e1 : (mkS l).extract ((i : Int)).toNat (((i + lineN (l.drop i) : Nat) : Int)).toNat = mkS ((l.drop i).take (lineN (l.drop i))) := by
        rw [Int.toNat_natCast, Int.toNat_natCast]; exact extract_line l i
      refine Ev.next ?_
      simp only [bulletinref15_Body.l0, mkS_size]
      refine Ev.ite_pos (by omega) (Ev.bind (refEndE l (by omega) i hi) ?_)
      unfold bodyG
      rw [if_neg hne]
      have htk : ((l.drop i).take (lineN (l.drop i))).length = lineN (l.drop i) := by rw [List.length_take]; omega
      by_cases h1 : lineN (l.drop i) = (l.drop i).length
      · rw [if_pos h1]
        refine Ev.ite_pos (by omega) (Ev.const ?_)
        rw [show i + (l.drop i).length = l.length by omega]
      · rw [if_neg h1]
        refine Ev.ite_neg (by omega) ?_
        have hw1 : wrap64 (((i + lineN (l.drop i) : Nat) : Int) - (i : Int)) = (lineN (l.drop i) : Int) := by
          rw [show ((i + lineN (l.drop i) : Nat) : Int) - (i : Int) = (lineN (l.drop i) : Int) by omega, wrap64_small (by omega) (by omega)]
        rw [hw1]
        by_cases h2 : 998 < lineN (l.drop i)
        · rw [if_pos h2]
          refine Ev.ite_pos (by omega) (Ev.const ?_)
          rw [show (998 : Int) = ((998 : Nat) : Int) from rfl, wrap_add i 998 (by omega)]
        · rw [if_neg h2]
          refine Ev.ite_neg (by omega) (Ev.ite_pos (by omega) (Ev.ite_pos (by omega) (Ev.ite_pos (by omega) ?_)))
          rw [e1]
          refine Ev.bind (refBadF _ (by omega)) ?_
          have hb := badU_le ((l.drop i).take (lineN (l.drop i)))
          rw [htk] at hb
          by_cases h3 : 0 ≤ badU ((l.drop i).take (lineN (l.drop i)))
          · rw [if_pos h3]
            refine Ev.ite_pos h3 (Ev.const ?_)
            rw [wrap64_small (by omega) (by omega)]
          · rw [if_neg h3]
            refine Ev.ite_neg h3 ?_
            rw [wrap_nat _ (by omega), List.drop_drop]
            exact ih _ (by omega) (by omega)
    · rw [List.drop_eq_nil_of_le (by omega), bodyG_nil]
      refine Ev.next ?_
      simp only [bulletinref15_Body.l0, mkS_size]
      exact Ev.ite_neg (by omega) (Ev.const rfl)
theorem refBodyF (l : List UInt8) (hl : l.length ≤ 900000) : Ev (fun k => bulletinref15_Body.f k (mkS l)) (bodyU l) := by
  have := refBody_loop l hl l.length 0 (by omega) (by omega)
  rw [List.drop_zero] at this
  exact this
theorem bodyG_le (f : Nat) : ∀ i l, 0 ≤ (bodyG f i l).1 ∧ (bodyG f i l).1 ≤ ((i + l.length : Nat) : Int) := by
  induction f with
  | zero => intro i l; simp [bodyG]; omega
  | succ f ih =>
    intro i l
    have hln := lineN_le l
    unfold bodyG
    split
    · simp; omega
    · split
      · simp only []; omega
      · split
        · simp only []; omega
        · have hb := badU_le (l.take (lineN l))
          have htk : (l.take (lineN l)).length = lineN l := by rw [List.length_take]; omega
          rw [htk] at hb
          split
          · simp only []; omega
          · have := ih (i + (lineN l + 1)) (l.drop (lineN l + 1))
            rw [List.length_drop] at this
            refine ⟨this.1, Int.le_trans this.2 ?_⟩
            omega
theorem bodyU_le (l : List UInt8) : 0 ≤ (bodyU l).1 ∧ (bodyU l).1 ≤ (l.length : Int) := by
  have := bodyG_le l.length 0 l
  rw [Nat.zero_add] at this
  exact this
end Go.Proofs.YtfeciafdioepiaaGreatDoor
set_option linter.unusedVariables false
set_option linter.unusedSimpArgs false
namespace Go.Proofs.YtfeciafdioepiaaGreatDoor
open Go.RowKit Go.Proofs Go.Proofs.YtfeciafdioepiaaGreatDoorW.PrintWords Go.Proofs.YtfeciafdioepiaaGreatDoorW.PrintMore Go.Proofs.YtfeciafdioepiaaGreatDoor.PA

/-! ### the header -/
def headL (l : List UInt8) : List UInt8 × Bool :=
  if Lib.hasPrefix l [10] = true then ([], true)
  else if 0 ≤ Lib.index l [10, 10] then (l.take (Lib.index l [10, 10] + 1).toNat, true)
  else (l, false)
theorem headA_mk (l : List UInt8) : headA (mkS l) = (mkS (headL l).1, (headL l).2) := by
  unfold headA headL
  rw [mkS_toList]
  split
  · rfl
  · split
    · rw [extract_mk, mkS_toList, List.drop_zero, Nat.sub_zero]
    · rfl
theorem occ2 (l : List UInt8) (j : Nat) : Lib.occAt l [10, 10] j = true ↔ (l[j]? = some 10 ∧ l[j + 1]? = some 10) := by
  unfold Lib.occAt
  have e0 : l[j]? = (l.drop j)[0]? := by rw [List.getElem?_drop]; rfl
  have e1 : l[j + 1]? = (l.drop j)[1]? := by rw [List.getElem?_drop]
  rw [e0, e1]
  generalize l.drop j = t
  match t with
  | [] => simp [List.isPrefixOf]
  | [a] => simp [List.isPrefixOf]
  | a :: b :: r =>
    simp [List.isPrefixOf]
    constructor
    · rintro ⟨rfl, rfl⟩; exact ⟨rfl, rfl⟩
    · rintro ⟨rfl, rfl⟩; exact ⟨rfl, rfl⟩
theorem pref10 (l : List UInt8) : Lib.hasPrefix l [10] = true ↔ l[0]? = some 10 := by
  unfold Lib.hasPrefix
  cases l with
  | nil => simp [List.isPrefixOf]
  | cons a r =>
    simp [List.isPrefixOf]
    constructor
    · rintro rfl; rfl
    · rintro rfl; rfl
/-- What is known at the beginning of a line when no empty line came up. -/
structure HInv (l : List UInt8) (i : Nat) : Prop where
  no : ∀ j, j + 1 < i → ¬ (l[j]? = some 10 ∧ l[j + 1]? = some 10)
  first : 0 < i → l[0]? ≠ some 10
  at_ : 0 < i → i ≤ l.length → l[i - 1]? = some 10
theorem head_found {l : List UInt8} {i : Nat} (h : HInv l i) (hi : l[i]? = some 10) : headL l = (l.take i, true) := by
  have hlt : i < l.length := (List.getElem?_eq_some_iff.1 hi).1
  unfold headL
  by_cases h0 : i = 0
  · subst h0
    rw [if_pos ((pref10 l).2 hi)]; rfl
  · have hp := h.first (by omega)
    rw [if_neg (fun x => hp ((pref10 l).1 x))]
    have hx : Lib.index l [10, 10] = ((i - 1 : Nat) : Int) := by
      refine Lib.index_hit (fun j hj => ?_) (by omega) ((occ2 l (i - 1)).2 ⟨h.at_ (by omega) (by omega), by rw [show i - 1 + 1 = i by omega]; exact hi⟩)
      have := h.no j (by omega)
      cases ho : Lib.occAt l [10, 10] j with
      | false => rfl
      | true => exact absurd ((occ2 l j).1 ho) this
    rw [hx, if_pos (by omega)]
    rw [show (((i - 1 : Nat) : Int) + 1).toNat = i by omega]
theorem head_none {l : List UInt8} (h1 : ∀ j : Nat, ¬ (l[j]? = some 10 ∧ l[j + 1]? = some 10)) (h2 : l[0]? ≠ some 10) : headL l = (l, false) := by
  unfold headL
  rw [if_neg (fun x => h2 ((pref10 l).1 x))]
  rcases Lib.index_spec l [10, 10] with ⟨h3, _⟩ | ⟨i, h3, h4, h5, _⟩
  · rw [h3, if_neg (by decide)]
  · exact absurd ((occ2 l i).1 h5) (h1 i)
theorem spanL_pre (p : UInt8 → Bool) (l : List UInt8) (j : Nat) (h : j < spanL p l) (hj : j < l.length) : p l[j] = true := by
  induction l generalizing j with
  | nil => simp at hj
  | cons d l ih =>
    by_cases hd : p d = true
    · have e : spanL p (d :: l) = spanL p l + 1 := by simp [spanL, hd]
      cases j with
      | zero => exact hd
      | succ j =>
        rw [List.getElem_cons_succ]
        exact ih j (by omega) (by simpa using hj)
    · have e : spanL p (d :: l) = 0 := by simp [spanL, hd]
      omega
theorem spanL_atN (p : UInt8 → Bool) (l : List UInt8) (h : spanL p l < l.length) : p l[spanL p l] = false := by
  induction l with
  | nil => simp at h
  | cons d l ih =>
    by_cases hd : p d = true
    · have e : spanL p (d :: l) = spanL p l + 1 := by simp [spanL, hd]
      simp only [e, List.getElem_cons_succ]
      exact ih (by rw [e] at h; simpa using h)
    · have e : spanL p (d :: l) = 0 := by simp [spanL, hd]
      simp only [e, List.getElem_cons_zero]
      simpa using hd
theorem line_not (l : List UInt8) (i j : Nat) (h1 : i ≤ j) (h2 : j < i + lineN (l.drop i)) : l[j]? ≠ some 10 := by
  intro h
  obtain ⟨hlt, he⟩ := List.getElem?_eq_some_iff.1 h
  have := spanL_pre notNl (l.drop i) (j - i) (by unfold lineN at h2; omega) (by rw [List.length_drop]; omega)
  rw [List.getElem_drop] at this
  have e : l[i + (j - i)]'(by omega) = l[j] := by congr 1; omega
  rw [e, he] at this
  exact absurd this (by decide)
theorem line_at (l : List UInt8) (i : Nat) (h : i + lineN (l.drop i) < l.length) : l[i + lineN (l.drop i)]? = some 10 := by
  have := spanL_atN notNl (l.drop i) (by unfold lineN at h; rw [List.length_drop]; omega)
  rw [List.getElem_drop] at this
  rw [List.getElem?_eq_getElem h]
  have h' : notNl (l[i + lineN (l.drop i)]'h) = false := this
  unfold notNl at h'
  simpa using h'
theorem inv_next {l : List UInt8} {i : Nat} (h : HInv l i) (hi : i < l.length) (hn : l[i]? ≠ some 10) : HInv l (i + lineN (l.drop i) + 1) := by
  refine ⟨fun j hj => ?_, fun _ => ?_, fun _ hle => ?_⟩
  · rintro ⟨h1, h2⟩
    by_cases hc : j + 1 < i
    · exact h.no j hc ⟨h1, h2⟩
    · by_cases hd : j + 1 = i
      · rw [hd] at h2; exact hn h2
      · exact line_not l i j (by omega) (by omega) h1
  · by_cases h0 : i = 0
    · subst h0; exact hn
    · exact h.first (by omega)
  · rw [Nat.add_sub_cancel]
    exact line_at l i (by omega)
theorem inv_end {l : List UInt8} {i : Nat} (h : HInv l i) (hi : l.length ≤ i) : headL l = (l, false) := by
  refine head_none (fun j => ?_) ?_
  · rintro ⟨h1, h2⟩
    have hl := (List.getElem?_eq_some_iff.1 h2).1
    exact h.no j (by omega) ⟨h1, h2⟩
  · by_cases h0 : i = 0
    · intro h1
      have hl := (List.getElem?_eq_some_iff.1 h1).1
      omega
    · exact h.first (by omega)
theorem headL_len (l : List UInt8) : (headL l).1.length ≤ l.length := by
  unfold headL
  split
  · simp
  · split
    · simp only [List.length_take]; omega
    · exact Nat.le_refl _
theorem headL_room (l : List UInt8) (h : (headL l).2 = true) : (headL l).1.length + 1 ≤ l.length := by
  have e := headA_mk l
  have := headA_len (mkS l) (by rw [e]; exact h)
  rw [e] at this
  simp only [mkS_size] at this
  exact this
theorem headL_take (l : List UInt8) : l.take (headL l).1.length = (headL l).1 := by
  unfold headL
  split
  · rfl
  · split
    · simp only [List.length_take]
      rw [Nat.min_comm, ← List.take_take, List.take_of_length_le (by simp only [List.length_take]; omega)]
    · exact List.take_length

/-! ### Parse -/
def bodyOf (l : List UInt8) : List UInt8 := l.drop ((headL l).1.length + 1)
def apR (l : List UInt8) : List Fld × List UInt8 × Int × Int :=
  if 65536 < l.length then ([], [], 65536, 5)
  else if (parseP (headL l).1).2.2 ≠ 0 then ([], [], (parseP (headL l).1).2.1, (parseP (headL l).1).2.2)
  else if (headL l).2 = false then ([], [], (l.length : Int), 4)
  else if (bodyU (bodyOf l)).2 ≠ 0 then ([], [], (((headL l).1.length + 1 : Nat) : Int) + (bodyU (bodyOf l)).1, (bodyU (bodyOf l)).2)
  else ((parseP (headL l).1).1, bodyOf l, 0, 0)
theorem aparseF (l : List UInt8) (hl : l.length ≤ 900000) : Ev (fun k => GV.AParse.f k (mkS l)) ((apR l).1.map toS, mkS (apR l).2.1, (apR l).2.2.1, (apR l).2.2.2) := by
  have hh := headA_mk l
  have hle := headL_len l
  have e1 : errA (mkS l) = (parseP (headL l).1).2.2 := by unfold errA; rw [hh]; simp only [mkS_toList]
  have e2 : atA (mkS l) = (parseP (headL l).1).2.1 := by unfold atA; rw [hh]; simp only [mkS_toList]
  have e3 : fldsA (mkS l) = (parseP (headL l).1).1.map toS := by unfold fldsA; rw [hh]; simp only [mkS_toList]
  have e4 : restA (mkS l) = mkS (bodyOf l) := by
    unfold restA bodyOf; rw [hh]
    simp only [mkS_size]
    rw [extract_mk, mkS_toList, List.take_of_length_le (by rw [List.length_drop]; omega)]
  unfold GV.AParse.f
  rw [e1, e2, e3, e4, hh]
  simp only [mkS_size]
  by_cases h1 : 65536 < l.length
  · have e : apR l = ([], [], 65536, 5) := by unfold apR; rw [if_pos h1]
    rw [e]; exact Ev.ite_pos h1 (Ev.const rfl)
  · refine Ev.ite_neg h1 ?_
    by_cases h2 : (parseP (headL l).1).2.2 ≠ 0
    · have e : apR l = ([], [], (parseP (headL l).1).2.1, (parseP (headL l).1).2.2) := by unfold apR; rw [if_neg h1, if_pos h2]
      rw [e]; exact Ev.ite_pos h2 (Ev.const rfl)
    · refine Ev.ite_neg h2 ?_
      by_cases h3 : (headL l).2 = false
      · have e : apR l = ([], [], (l.length : Int), 4) := by unfold apR; rw [if_neg h1, if_neg h2, if_pos h3]
        rw [e]; exact Ev.ite_pos h3 (Ev.const rfl)
      · have hbl : (bodyOf l).length ≤ l.length := by unfold bodyOf; rw [List.length_drop]; omega
        have hb := bodyU_le (bodyOf l)
        refine Ev.ite_neg h3 (Ev.bind (checkBodyF (bodyOf l) (by omega)) ?_)
        by_cases h4 : (bodyU (bodyOf l)).2 ≠ 0
        · have e : apR l = ([], [], (((headL l).1.length + 1 : Nat) : Int) + (bodyU (bodyOf l)).1, (bodyU (bodyOf l)).2) := by unfold apR; rw [if_neg h1, if_neg h2, if_neg h3, if_pos h4]
          rw [e]
          refine Ev.ite_pos h4 (Ev.const ?_)
          rw [wrap64_small (by omega) (by omega)]
          have e5 : ((headL l).1.length : Int) + 1 + (bodyU (bodyOf l)).1 = (((headL l).1.length + 1 : Nat) : Int) + (bodyU (bodyOf l)).1 := by omega
          rw [e5]; rfl
        · have e : apR l = ((parseP (headL l).1).1, bodyOf l, 0, 0) := by unfold apR; rw [if_neg h1, if_neg h2, if_neg h3, if_neg h4]
          rw [e]; exact Ev.ite_neg h4 (Ev.const rfl)
/-! ### the same -/
theorem rd76 (l : List S76) (i : Nat) (h : i < l.length) : rd_T76 l (i : Int) = l[i] := by
  unfold rd_T76; rw [Int.toNat_natCast, List.getD_eq_getElem?_getD, List.getElem?_eq_getElem h]; rfl
theorem rd78 (l : List S78) (i : Nat) (h : i < l.length) : rd_T78 l (i : Int) = l[i] := by
  unfold rd_T78; rw [Int.toNat_natCast, List.getD_eq_getElem?_getD, List.getElem?_eq_getElem h]; rfl
theorem same_loop (fs : List Fld) (hn : fs.length ≤ 1100000) (b : ByteArray) : ∀ d i : Nat, fs.length - i = d → i ≤ fs.length → Ev (fun k => bulletinlaw15_same.l0 k (i : Int) (fs.map toS) b (fs.map toR) b) true := by
  intro d
  induction d with
  | zero =>
    intro i hd hi
    refine Ev.next ?_
    simp only [bulletinlaw15_same.l0, List.length_map]
    exact Ev.ite_neg (by omega) (Ev.const rfl)
  | succ d ih =>
    intro i hd hi
    have hlt : i < fs.length := by omega
    refine Ev.next ?_
    simp only [bulletinlaw15_same.l0, List.length_map]
    rw [rd76 _ i (by rw [List.length_map]; exact hlt), rd78 _ i (by rw [List.length_map]; exact hlt), List.getElem_map, List.getElem_map, wrap_nat i (by omega)]
    exact Ev.ite_pos (by omega) (Ev.ite_pos (by omega) (Ev.ite_pos (by omega) (Ev.ite_pos rfl (Ev.ite_pos rfl (ih (i + 1) (by omega) (by omega))))))
theorem same15 (fs : List Fld) (hn : fs.length ≤ 1100000) (b : ByteArray) : Ev (fun k => bulletinlaw15_same.f k (fs.map toS) b (fs.map toR) b) true := by
  unfold bulletinlaw15_same.f
  refine Ev.ite_pos (by simp) ?_
  refine Ev.next ?_
  simp only [bulletinlaw15_same.j0]
  exact Ev.ite_neg (by simp) (same_loop fs hn b _ 0 rfl (by omega))

/-! ### Print -/
def apP (fs : List Fld) (b : List UInt8) : List UInt8 × Int :=
  if (printP fs).2 ≠ 0 then ([], (printP fs).2) else if (bodyU b).2 ≠ 0 then ([], (bodyU b).2)
  else if 65536 < (printP fs).1.length + 1 + b.length then ([], 5) else ((printP fs).1 ++ 10 :: b, 0)
theorem printHdr (fs : List Fld) (b : List UInt8) (hb : b.length ≤ 900000) :
    (if (wrap64 ((wrap64 (((mkS (printP fs).1).size : Int) + 1)) + ((mkS b).size : Int))) > 65536 then (some ((⟨#[]⟩ : ByteArray), (5 : Int))) else (if (mkS (printP fs).1).size + 1 ≤ 9223372036854775807 then (if ((mkS (printP fs).1) ++ (⟨#[10]⟩ : ByteArray)).size + (mkS b).size ≤ 9223372036854775807 then (some (((mkS (printP fs).1) ++ (⟨#[10]⟩ : ByteArray)) ++ mkS b, 0)) else (none)) else (none))) =
    some (if 65536 < (printP fs).1.length + 1 + b.length then (⟨#[]⟩, 5) else (mkS ((printP fs).1 ++ 10 :: b), 0)) := by
  have hp := printP_small fs
  have e3 : ∀ t : List UInt8, mkS t ++ (⟨#[10]⟩ : ByteArray) = mkS (t ++ [10]) := fun t => mkS_append t [10]
  rw [e3, mkS_append, mkS_size, mkS_size, mkS_size, wrap_nat _ (by omega), wrap_add _ _ (by omega)]
  by_cases h : 65536 < (printP fs).1.length + 1 + b.length
  · rw [if_pos (by omega), if_pos h]
  · rw [if_neg (by omega), if_neg h, if_pos (by omega), if_pos (by simp; omega)]
    simp
theorem aprintF (fs : List Fld) (hf : ∀ f ∈ fs, f.name.length ≤ 1100000 ∧ f.body.length ≤ 1100000) (b : List UInt8) (hb : b.length ≤ 900000) : Ev (fun k => PC.article_Print.f k (fs.map toS) (mkS b)) (mkS (apP fs b).1, (apP fs b).2) := by
  unfold PC.article_Print.f
  refine Ev.bind (printF fs hf) ?_
  simp only []
  rw [printHdr fs b hb]
  by_cases h1 : (printP fs).2 ≠ 0
  · have e : apP fs b = ([], (printP fs).2) := by unfold apP; rw [if_pos h1]
    rw [e]; exact Ev.ite_neg h1 (Ev.const rfl)
  · refine Ev.ite_pos (by simpa using h1) (Ev.bind (checkBodyF b hb) ?_)
    by_cases h2 : (bodyU b).2 ≠ 0
    · have e : apP fs b = ([], (bodyU b).2) := by unfold apP; rw [if_neg h1, if_pos h2]
      rw [e]; exact Ev.ite_neg h2 (Ev.const rfl)
    · refine Ev.ite_pos (by simpa using h2) (Ev.const ?_)
      unfold apP
      rw [if_neg h1, if_neg h2]
      split <;> rfl
/-! ### parsed behind printing -/
theorem apR_flds (l : List UInt8) : (apR l).1.length ≤ 64 := by
  unfold apR
  split
  · simp
  · split
    · simp
    · split
      · simp
      · split
        · simp
        · exact parse_len _
end Go.Proofs.YtfeciafdioepiaaGreatDoor
set_option linter.unusedVariables false
set_option linter.unusedSimpArgs false
namespace Go.Proofs.YtfeciafdioepiaaGreatDoor
open Go.RowKit Go.Proofs Go.Proofs.YtfeciafdioepiaaGreatDoorW.PrintWords Go.Proofs.YtfeciafdioepiaaGreatDoorW.PrintMore Go.Proofs.YtfeciafdioepiaaGreatDoor.PA
theorem rparse0E (t : List UInt8) (h : t = []) : Ev (fun k => GV.RParse0.f k (mkS t)) ((parseP t).1.map toR, (parseP t).2.1, (parseP t).2.2) := by
  subst h
  exact Ev.const rfl
theorem rprint0E (fs : List Fld) (h : fs = []) : Ev (fun k => GV.RPrint0.f k (fs.map toR)) (mkS (printP fs).1, (printP fs).2) := by
  subst h
  exact Ev.const rfl
theorem head10 (b : List UInt8) : (headL (10 :: b)).1 = [] := by
  unfold headL
  rw [if_pos (by simp [Lib.hasPrefix])]
theorem scanHeadZ (l : List UInt8) (hl : l.length ≤ 900000) (R : List S78 × ByteArray × Int × Int)
    (hR : ∀ x7 : Int, Ev (fun k => PZ.refParseZ.j1 k (mkS l) ((headL l).1.length : Int) (headL l).2 x7 false) R) : ∀ d i : Nat, l.length + 1 - i = d → HInv l i →
    Ev (fun k => PZ.refParseZ.l0 k (mkS l) (l.length : Int) false (i : Int)) R := by
  intro d
  induction d using Nat.strongRecOn with
  | _ d ih =>
    intro i hd h
    refine Ev.next ?_
    simp only [PZ.refParseZ.l0, mkS_size]
    by_cases hlt : i < l.length
    · refine Ev.ite_pos (by omega) (Ev.next ?_)
      simp only [PZ.refParseZ.j1, mkS_size]
      refine Ev.ite_pos (by simp) (Ev.bind (refEndE l (by omega) i (by omega)) ?_)
      have hln := lineN_le (l.drop i)
      rw [List.length_drop] at hln
      rw [wrap_nat _ (by omega)]
      by_cases h0 : l[i]? = some 10
      · have hz : lineN (l.drop i) = 0 := by
          have hi2 : l[i] = 10 := by rw [List.getElem?_eq_getElem hlt] at h0; injection h0
          rw [List.drop_eq_getElem_cons hlt, hi2]
          rfl
        refine Ev.ite_pos (by omega) (Ev.next ?_)
        have hf := head_found h h0
        simp only [PZ.refParseZ.l0, mkS_size]
        have hr := hR ((i + lineN (l.drop i) + 1 : Nat) : Int)
        rw [hf] at hr
        simp only [List.length_take] at hr
        rw [show min i l.length = i by omega] at hr
        by_cases hc : ((i + lineN (l.drop i) + 1 : Nat) : Int) < (l.length : Int)
        · exact Ev.ite_pos hc hr
        · exact Ev.ite_neg hc hr
      · have hz : lineN (l.drop i) ≠ 0 := by
          intro hz
          have := line_at l i (by omega)
          rw [hz, Nat.add_zero] at this
          exact h0 this
        refine Ev.ite_neg (by omega) ?_
        exact ih (l.length + 1 - (i + lineN (l.drop i) + 1)) (by omega) (i + lineN (l.drop i) + 1) rfl (inv_next h hlt h0)
    · refine Ev.ite_neg (by omega) ?_
      have := hR (i : Int)
      rw [inv_end h (by omega)] at this
      exact this
theorem refParse15Z (l : List UInt8) (hl : l.length ≤ 900000) (hd : (headL l).1 = []) : Ev (fun k => PZ.refParseZ.f k (mkS l)) ((apR l).1.map toR, mkS (apR l).2.1, (apR l).2.2.1, (apR l).2.2.2) := by
  have hle := headL_len l
  unfold PZ.refParseZ.f
  simp only [mkS_size]
  by_cases h1 : 65536 < l.length
  · have e : apR l = ([], [], 65536, 5) := by unfold apR; rw [if_pos h1]
    rw [e]; exact Ev.ite_pos (by omega) (Ev.const rfl)
  · refine Ev.ite_neg (by omega) ?_
    refine scanHeadZ l hl _ (fun x7 => ?_) _ 0 rfl ⟨fun j hj => by omega, fun h => by omega, fun h => by omega⟩
    have ext : (mkS l).extract 0 (((headL l).1.length : Int)).toNat = mkS (headL l).1 := by
      rw [Int.toNat_natCast, extract_mk, mkS_toList, List.drop_zero, Nat.sub_zero, headL_take]
    refine Ev.next ?_
    simp only [PZ.refParseZ.j1, mkS_size]
    rw [ext, wrap_nat _ (by omega)]
    refine Ev.ite_neg (by simp) (Ev.ite_pos (by omega) (Ev.ite_pos (by omega) (Ev.bind (rparse0E (headL l).1 hd) ?_)))
    by_cases h2 : (parseP (headL l).1).2.2 ≠ 0
    · have e : apR l = ([], [], (parseP (headL l).1).2.1, (parseP (headL l).1).2.2) := by unfold apR; rw [if_neg h1, if_pos h2]
      rw [e]; exact Ev.ite_neg h2 (Ev.const rfl)
    · refine Ev.ite_pos (by simpa using h2) ?_
      by_cases h3 : (headL l).2 = false
      · have e : apR l = ([], [], (l.length : Int), 4) := by unfold apR; rw [if_neg h1, if_neg h2, if_pos h3]
        rw [e]; exact Ev.ite_neg (by simp [h3]) (Ev.const rfl)
      · have h3' : (headL l).2 = true := by simpa using h3
        have hroom := headL_room l h3'
        have hbl : (bodyOf l).length ≤ l.length := by unfold bodyOf; rw [List.length_drop]; omega
        have hb := bodyU_le (bodyOf l)
        have ext2 : (mkS l).extract ((((headL l).1.length + 1 : Nat) : Int)).toNat l.length = mkS (bodyOf l) := by
          unfold bodyOf
          rw [Int.toNat_natCast, extract_mk, mkS_toList, List.take_of_length_le (by rw [List.length_drop]; omega)]
        rw [ext2]
        refine Ev.ite_pos h3' (Ev.ite_pos (by omega) (Ev.ite_pos (by omega) (Ev.bind (refBodyF (bodyOf l) (by omega)) ?_)))
        have hbl2 : (bodyOf l).length = l.length - ((headL l).1.length + 1) := by unfold bodyOf; rw [List.length_drop]
        by_cases h4 : (bodyU (bodyOf l)).2 ≠ 0
        · have e : apR l = ([], [], (((headL l).1.length + 1 : Nat) : Int) + (bodyU (bodyOf l)).1, (bodyU (bodyOf l)).2) := by unfold apR; rw [if_neg h1, if_neg h2, if_neg h3, if_pos h4]
          rw [e]
          refine Ev.ite_neg h4 (Ev.const ?_)
          rw [wrap64_small (by omega) (by omega)]
          rfl
        · have e : apR l = ((parseP (headL l).1).1, bodyOf l, 0, 0) := by unfold apR; rw [if_neg h1, if_neg h2, if_neg h3, if_neg h4]
          rw [e]; exact Ev.ite_pos (by simpa using h4) (Ev.const rfl)

theorem refPrint15Z (fs : List Fld) (h0 : fs = []) (b : List UInt8) (hb : b.length ≤ 900000) : Ev (fun k => PZ.refPrintZ.f k (fs.map toR) (mkS b)) (mkS (apP fs b).1, (apP fs b).2) := by
  unfold PZ.refPrintZ.f
  refine Ev.bind (rprint0E fs h0) ?_
  simp only []
  rw [printHdr fs b hb]
  by_cases h1 : (printP fs).2 ≠ 0
  · have e : apP fs b = ([], (printP fs).2) := by unfold apP; rw [if_pos h1]
    rw [e]; exact Ev.ite_neg h1 (Ev.const rfl)
  · refine Ev.ite_pos (by simpa using h1) (Ev.bind (refBodyF b hb) ?_)
    by_cases h2 : (bodyU b).2 ≠ 0
    · have e : apP fs b = ([], (bodyU b).2) := by unfold apP; rw [if_neg h1, if_pos h2]
      rw [e]; exact Ev.ite_neg h2 (Ev.const rfl)
    · refine Ev.ite_pos (by simpa using h2) (Ev.const ?_)
      unfold apP
      rw [if_neg h1, if_neg h2]
      split <;> rfl

theorem back_nil (b : ByteArray) : Ev (fun k => bulletinlaw15_back.f k ([] : List S78) b) (([] : List S76), b) := by
  unfold bulletinlaw15_back.f
  refine Ev.next ?_
  simp only [bulletinlaw15_back.l0]
  exact Ev.ite_neg (by simp) (Ev.const rfl)
theorem Limits_end (k0 : Nat) (y : List Int) (hy : y.length ≤ 800000) :
    Ev (fun k => (PA.bulletinlaw15_back.f k ([] : List (S78)) (strOfNums y)).bind fun bt117 => ((PC.article_Print.f k bt117.1 bt117.2).bind fun bt121 => ((PZ.refPrintZ.f k ([] : List (S78)) (strOfNums y)).bind fun bt123 => (if 1 + (strOfNums y).size ≤ 9223372036854775807 then ((GV.AParse.f k ((⟨#[10]⟩ : ByteArray) ++ (strOfNums y))).bind fun bt125 => ((PZ.refParseZ.f k ((⟨#[10]⟩ : ByteArray) ++ (strOfNums y))).bind fun bt132 => ((GV.known.f).bind fun t139 => (if t139 = true then (if bt121.1.toList = bt123.1.toList then (if bt121.2 = bt123.2 then (if bt125.2.2.1 = bt132.2.2.1 then (if bt125.2.2.2 = bt132.2.2.2 then ((PA.bulletinlaw15_same.f k bt125.1 bt125.2.1 bt132.1 bt132.2.1).bind fun t140 => (some t140)) else (some false)) else (some false)) else (some false)) else (some false)) else (some false))))) else (none))))) true := by
  obtain ⟨b, hb, hbl⟩ : ∃ b : List UInt8, strOfNums y = mkS b ∧ b.length ≤ 800000 := ⟨y.map fun n => UInt8.ofNat n.toNat, rfl, by rw [List.length_map]; exact hy⟩
  rw [hb]
  have e1 : (⟨#[10]⟩ : ByteArray) ++ mkS b = mkS (10 :: b) := mkS_append [10] b
  rw [e1, mkS_size]
  have hsm : ∀ f ∈ ([] : List Fld), f.name.length ≤ 1100000 ∧ f.body.length ≤ 1100000 := by simp
  have hap := aprintF [] hsm b (by omega)
  have hrp := refPrint15Z [] rfl b (by omega)
  have hfl := apR_flds (10 :: b)
  refine Ev.bind (back_nil (mkS b)) (Ev.bind hap (Ev.bind hrp (Ev.ite_pos (by omega) (Ev.bind (aparseF (10 :: b) (by simp; omega)) (Ev.bind (refParse15Z (10 :: b) (by simp; omega) (head10 b)) (Ev.bind (a := true) (Ev.const rfl) (Ev.ite_pos rfl (Ev.ite_pos rfl (Ev.ite_pos rfl (Ev.ite_pos rfl (Ev.ite_pos rfl ?_)))))))))))
  exact Ev.bind (same15 _ (by omega) _) (Ev.const rfl)
theorem Limits_l2 (x1 : Int) (M : Nat) (hM : Int.tmod (wrap64 x1) 1002 = (M : Int)) (hM2 : M ≤ 1002) : ∀ d j : Nat, M - j = d → ∀ y : List Int, y.length + d ≤ 700000 → Ev (fun k => PZ.bulletinlaw15_ArticleLimits.l2 k x1 y (j : Int)) true := by
  intro d
  induction d with
  | zero =>
    intro j hd y hy
    refine Ev.next ?_
    simp only [PZ.bulletinlaw15_ArticleLimits.l2]
    rw [hM]
    refine Ev.ite_neg (by omega) (Ev.ite_pos (by omega) ?_)
    exact Limits_end 0 (y ++ [10]) (by simp; omega)
  | succ d ih =>
    intro j hd y hy
    refine Ev.next ?_
    simp only [PZ.bulletinlaw15_ArticleLimits.l2]
    rw [hM, wrap_nat j (by omega)]
    refine Ev.ite_pos (by omega) (Ev.ite_pos (by omega) ?_)
    exact ih (j + 1) (by omega) _ (by simp; omega)
theorem Limits_l0 (x0 x1 : Int) (N M : Nat) (hN : wrap64 (60 + Int.tmod (wrap64 x0) 8) = (N : Int)) (hN2 : N ≤ 67) (hM : Int.tmod (wrap64 x1) 1002 = (M : Int)) (hM2 : M ≤ 1002) : ∀ d i : Nat, N - i = d → ∀ y : List Int, y.length + 1000 * d ≤ 600000 → Ev (fun k => PZ.bulletinlaw15_ArticleLimits.l0 k x0 x1 y (i : Int)) true := by
  intro d
  induction d with
  | zero =>
    intro i hd y hy
    refine Ev.next ?_
    simp only [PZ.bulletinlaw15_ArticleLimits.l0]
    rw [hN]
    refine Ev.ite_neg (by omega) ?_
    exact Limits_l2 x1 M hM hM2 M 0 rfl y (by omega)
  | succ d ih =>
    intro i hd y hy
    refine Ev.next ?_
    simp only [PZ.bulletinlaw15_ArticleLimits.l0]
    rw [hN]
    refine Ev.ite_pos (by omega) ?_
    have key : ∀ c j : Nat, 998 - j = c → ∀ z : List Int, z.length + c + 1 + 1000 * d ≤ 600000 → Ev (fun k => PZ.bulletinlaw15_ArticleLimits.l1 k x0 x1 z (i : Int) (j : Int)) true := by
      intro c
      induction c with
      | zero =>
        intro j hj z hz
        refine Ev.next ?_
        simp only [PZ.bulletinlaw15_ArticleLimits.l1]
        rw [wrap_nat i (by omega)]
        refine Ev.ite_neg (by omega) (Ev.ite_pos (by omega) ?_)
        exact ih (i + 1) (by omega) _ (by simp; omega)
      | succ c ihc =>
        intro j hj z hz
        refine Ev.next ?_
        simp only [PZ.bulletinlaw15_ArticleLimits.l1]
        rw [wrap_nat j (by omega)]
        refine Ev.ite_pos (by omega) (Ev.ite_pos (by omega) ?_)
        exact ihc (j + 1) (by omega) _ (by simp; omega)
    exact key 998 0 rfl y (by omega)
theorem u16_bounds {a : Int} (h : (Lit.int .u16 a).wf = true) : 0 ≤ a ∧ a ≤ 65535 := by
  have hm : IntKind.u16.min = 0 := rfl
  have hM : IntKind.u16.max = 65535 := rfl
  have h2 : (decide (IntKind.u16.min ≤ a) && decide (a ≤ IntKind.u16.max)) = true := h
  rw [hm, hM] at h2
  simpa using h2
theorem Limits_pure : PZ.bulletinlaw15_ArticleLimits.Pure := by
  intro a0 a1 h0 h1
  have b0 := u16_bounds h0
  have b1 := u16_bounds h1
  refine Ev.at_ ?_
  unfold PZ.bulletinlaw15_ArticleLimits.f
  refine Ev.ite_pos (by decide) ?_
  have w0 : wrap64 a0 = a0 := wrap64_small (by omega) (by omega)
  have w1 : wrap64 a1 = a1 := wrap64_small (by omega) (by omega)
  have t0 : Int.tmod a0 8 = a0 % 8 := Int.tmod_eq_emod_of_nonneg (by omega)
  have t1 : Int.tmod a1 1002 = a1 % 1002 := Int.tmod_eq_emod_of_nonneg (by omega)
  refine Limits_l0 a0 a1 (60 + a0 % 8).toNat (a1 % 1002).toNat ?_ (by omega) ?_ (by omega) _ 0 rfl _ ?_
  · rw [w0, t0, wrap64_small (by omega) (by omega)]; omega
  · rw [w1, t1]; omega
  · show ([] : List Int).length + 1000 * ((60 + a0 % 8).toNat - 0) ≤ 600000
    simp; omega
end Go.Proofs.YtfeciafdioepiaaGreatDoor
namespace Go.Proofs.YtfeciafdioepiaaGreatDoor.Pure
theorem ArticleLimits : Go.Proofs.YtfeciafdioepiaaGreatDoor.PZ.bulletinlaw15_ArticleLimits.Pure := Go.Proofs.YtfeciafdioepiaaGreatDoor.Limits_pure
end Go.Proofs.YtfeciafdioepiaaGreatDoor.Pure
namespace Go.Proofs.YtfeciafdioepiaaGreatDoor.articleLimits
open Go.ChangeShapes Go.WideShapes Go.ChangeAt Go.RowKit
open Go.ChangeMaps (open_string shut_string)
set_option linter.unusedVariables false
theorem own : ownKnob Tryz.prog.godebug = none := by kernel_rfl
set_option maxRecDepth 100000 in
theorem lifted (os : Os) (started : os.Started) (H : Type) (enc : TypeId × Value → H) :
    ReturnsInHanded {} Tryz.checked os 5 .any (fun w args => (Rows.articleLimitsSpec.pre enc Tryz.prog Tryz.f5 Rows.articleLimitsRow.domain false w args ∧ laidMetH Tryz.prog Rows.articleLimitsRow.laid w) ∧ sizedMet enc Tryz.prog Tryz.f5 (OpenSpec.ofChange Rows.articleLimitsSpec) false w args) (Rows.articleLimitsSpec.post enc Tryz.prog Tryz.f5 false true false false) := by
  refine handed_laid own started (by kernel_rfl) Tryz.func5
    (ChangeSpec.witness_shaped (enc := enc) (C := Tryz.checked) (os := os) (X := fun w _ => laidMetH Tryz.prog Rows.articleLimitsRow.laid w) false (World.laidAll Tryz.prog os Rows.articleLimitsRow.laid) #[.int .u16 0, .int .u16 0] 8 (World.laidAll_os _ _ _)
      (World.shaped_of_ZipB (by kernel_rfl) (by kernel_rfl)) (by kernel_rfl) (by kernel_rfl) (by kernel_rfl)
      (by rw [MakeChecks.laidMetH_plain _ _ _ (by kernel_rfl)]; exact laidMet_laidAll _ (by kernel_rfl) (by kernel_rfl))) ?_
  intro W base args ds gs before hval0 hW hcnd hsz0 hL hsh _
  have hsz : (DataW.weightsEach Tryz.prog (Tryz.f5.params.toList ++ Rows.articleLimitsSpec.plain.varTypes Tryz.prog) (ds ++ gs)).all (· ≤ reachBytes) = true := hsz0
  have hval : ∀ (j : Nat) t v, Tryz.f5.params[j]? = some t → args[j]? = some v → Value.okWide Tryz.prog W .any base t v := hval0
  have hW' := hW
  obtain ⟨p, q, hA0, hV, rfl, hfz, hnd⟩ := hW
  have hA : DataW.TrodAll enc Tryz.prog W 0 (fun _ => true) true Tryz.f5.params.toList args.toList ds p := hA0
  rw [Tryz.params5] at hA hval hsz
  obtain ⟨v0, vs0, d0, ds0, p0, q0, hargs, rfl, rfl, h0, r0⟩ := trodAll_cons hA
  obtain ⟨v1, vs1, d1, ds1, p1, q1, rfl, rfl, rfl, h1, r1⟩ := trodAll_cons r0
  obtain ⟨rfl, rfl, rfl⟩ := trodAll_nil r1
  obtain rfl : args = #[v0, v1] := by cases args; simp_all
  obtain ⟨rfl, rfl⟩ := trodVars_none hV
  obtain ⟨a0, rfl, rfl, rfl, w0⟩ := open_int Tryz.underlying43 (hval 0 43 v0 rfl rfl) h0
  obtain ⟨a1, rfl, rfl, rfl, w1⟩ := open_int Tryz.underlying43 (hval 1 43 v1 rfl rfl) h1
  clear hA0 hval0 hsz0 hsz
  refine (PZ.bulletinlaw15_ArticleLimits.walk Pure.ArticleLimits a0 a1 W (Tryz.laysM143.s1_3 W hsh) w0 w1).mono fun e W' ⟨he, bel⟩ => ?_
  subst he
  exact ⟨_, rfl, _, _, _, [], _, [], hW', trodAll_mk1 (shut_bool Tryz.underlying4 _), (trodAll_cons_mk (shut_int Tryz.underlying43 w0) (trodAll_cons_mk (shut_int Tryz.underlying43 w1) trodAll_mk0)), rfl, bel.frame _, fun h => by cases h⟩
theorem over : Rows.articleLimitsRow.holds Tryz.pinned (OpenSpec.ofChange Rows.articleLimitsSpec) :=
  OpenClaim.holds_of_wide 5 Tryz.f5 rfl rfl rfl rfl rfl rfl rfl ⟨rfl, rfl, rfl, rfl, rfl⟩ rfl rfl rfl rfl rfl (by kernel_rfl) Tryz.func5 (by kernel_rfl)
    (of_decide_eq_true (by kernel_rfl)) (by unfold Func.isWrapper; first | (rw [if_pos (by decide +kernel)]; kernel_rfl) | (rw [if_neg (by decide +kernel)]; exact ⟨rfl, rfl⟩))
    (fun os started H enc _ => lifted os started H enc)
theorem row_holds : Rows.ArticleLimitsSaid := over
theorem card_holds : Rows.ArticleLimitsCardSaid :=
  Claim7.holds_tied_plain_at .later [] [.data, .pinned] true (true, "0ed969f1a3953f9b426fc905d95e5da96efd084e39c94fceb3821d79c3635a2d") false row_holds (fun _ h => by cases h) (by kernel_rfl) (fun _ h => by cases h) articleLimits_row_tie rfl ⟨rfl, rfl⟩ (by kernel_rfl) rfl
    (fun f fn hf hfn => by
      obtain rfl : f = 5 := Option.some.inj ((show Tryz.prog.funcNamed "bulletin/bulletinlaw15.ArticleLimits" = some 5 by kernel_rfl).symm.trans hf) |>.symm
      obtain rfl : fn = Tryz.f5 := (Option.some.inj (Tryz.func5.symm.trans hfn)).symm
      exact ⟨by kernel_rfl, fun j t ht => by
        rw [Tryz.params5] at ht
        have hm : t ∈ [43] := by simpa using Array.mem_of_getElem? ht
        have hall : ([43].all fun u => !Tryz.prog.wantsStandIn u) = true := by kernel_rfl
        exact (show Tryz.prog.wantsStandIn t = false by simpa using List.all_eq_true.1 hall t hm)⟩)
    (by kernel_rfl)
#print axioms card_holds
end Go.Proofs.YtfeciafdioepiaaGreatDoor.articleLimits
namespace Go.Proofs.YtfeciafdioepiaaGreatDoor
/-- The card, under a short name, for the claim. -/
theorem articleLimits_holds : Rows.ArticleLimitsCardSaid := articleLimits.card_holds
end Go.Proofs.YtfeciafdioepiaaGreatDoor
