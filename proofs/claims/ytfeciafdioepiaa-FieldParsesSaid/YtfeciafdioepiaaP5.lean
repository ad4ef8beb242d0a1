/- Plain: one line of the reference's parser and of the list parser. -/
import Derived.Test.YtfeciafdioepiaaP4
set_option linter.unusedVariables false
set_option linter.unusedSimpArgs false
namespace Go.Proofs.Ytfeciafdioepiaa
open Go.RowKit Go.Proofs Go.Proofs.YtfeciafdioepiaaW.PrintWords Go.Proofs.Ytfeciafdioepiaa.PA

/-! ### words and joins -/
def wordOk (x : List UInt8) : Prop := x ≠ [] ∧ ∀ c ∈ x, isBlank c = false
theorem wordsGo_ok (l : List UInt8) : ∀ cur, (∀ c ∈ cur, isBlank c = false) → ∀ x ∈ wordsGo l cur, wordOk x := by
  induction l with
  | nil =>
    intro cur hc x hx
    unfold wordsGo at hx
    split at hx
    · simp at hx
    · rename_i h; simp at hx; subst hx; exact ⟨h, hc⟩
  | cons c l ih =>
    intro cur hc x hx
    unfold wordsGo at hx
    by_cases hb : isBlank c = true
    · rw [if_pos hb] at hx
      by_cases h0 : cur = []
      · rw [if_pos h0] at hx; exact ih [] (by simp) x hx
      · rw [if_neg h0] at hx
        rcases List.mem_cons.1 hx with rfl | hx
        · exact ⟨h0, hc⟩
        · exact ih [] (by simp) x hx
    · rw [if_neg hb] at hx
      refine ih (cur ++ [c]) (fun d hd => ?_) x hx
      rcases List.mem_append.1 hd with h | h
      · exact hc d h
      · simp at h; subst h; simpa using hb
theorem wordsL_ok (l : List UInt8) : ∀ x ∈ wordsL l, wordOk x := wordsGo_ok l [] (by simp)
theorem wordsGo_app (x : List UInt8) (hx : ∀ c ∈ x, isBlank c = false) (r : List UInt8) : ∀ cur, wordsGo (x ++ r) cur = wordsGo r (cur ++ x) := by
  induction x with
  | nil => intro cur; simp
  | cons c x ih =>
    intro cur
    rw [List.cons_append]
    conv => lhs; unfold wordsGo
    have := hx c (by simp)
    rw [if_neg (by simp [this]), ih (fun d hd => hx d (by simp [hd])), List.append_assoc]; rfl
theorem words_join : ∀ (ws : List (List UInt8)), (∀ x ∈ ws, wordOk x) → wordsL (joinW ws) = ws
  | [], _ => rfl
  | [x], h => by
    have hx := h x (by simp)
    show wordsGo (joinW [x]) [] = [x]
    have : joinW [x] = x ++ [] := by simp [joinW, List.intercalate]
    rw [this, wordsGo_app x hx.2]
    simp [wordsGo, hx.1]
  | x :: y :: ws, h => by
    have hx := h x (by simp)
    have ih := words_join (y :: ws) (fun z hz => h z (by simp at hz ⊢; exact Or.inr hz))
    have : joinW (x :: y :: ws) = x ++ (32 :: joinW (y :: ws)) := by simp [joinW, List.intercalate_cons_cons]
    rw [this]
    unfold wordsL
    rw [wordsGo_app x hx.2, List.nil_append]
    conv => lhs; unfold wordsGo
    rw [if_pos (by decide), if_neg hx.1]
    congr 1
theorem joinW_ne (ws : List (List UInt8)) (h : ∀ x ∈ ws, x ≠ []) (h0 : ws ≠ []) : joinW ws ≠ [] := by
  match ws, h0 with
  | [x], _ => intro e; exact h x (by simp) (by simpa [joinW, List.intercalate] using e)
  | x :: y :: t, _ =>
    have : joinW (x :: y :: t) = x ++ (32 :: joinW (y :: t)) := by simp [joinW, List.intercalate_cons_cons]
    rw [this]; simp
theorem addB_join : ∀ (ws W0 : List (List UInt8)), (∀ x ∈ W0, x ≠ []) → (∀ x ∈ ws, x ≠ []) → addB (joinW W0) ws = joinW (W0 ++ ws)
  | [], W0, _, _ => by simp [addB]
  | x :: xs, W0, h0, h => by
    unfold addB
    have hx := h x (by simp)
    have e : (if joinW W0 = [] then x else joinW W0 ++ [32] ++ x) = joinW (W0 ++ [x]) := by
      by_cases hw : W0 = []
      · subst hw; rw [if_pos (by rfl)]; simp [joinW, List.intercalate]
      · rw [if_neg (joinW_ne W0 h0 hw), joinW_snoc W0 x hw]; simp
    rw [e, addB_join xs (W0 ++ [x]) (fun y hy => by rcases List.mem_append.1 hy with h' | h'; exact h0 y h'; simp at h'; subst h'; exact hx) (fun y hy => h y (by simp [hy])), List.append_assoc]; rfl

/-! ### one line -/
def bodyE (pos : Nat) (fs : List Fld) (line : List UInt8) (i : Nat) : (Int × Int) ⊕ (List Fld × Nat) :=
  match longAt line i (wordsL (line.drop i)) with
  | some p => .inl (((pos + p : Nat) : Int), 5)
  | none => if 8192 < (joinW (wordsL (lastBody fs) ++ wordsL (line.drop i))).length then .inl ((pos : Int), 5) else .inr (setBody fs (joinW (wordsL (lastBody fs) ++ wordsL (line.drop i))), pos + (line.length + 1))
def lineE (text : List UInt8) (pos : Nat) (fs : List Fld) (line : List UInt8) : (Int × Int) ⊕ (List Fld × Nat) :=
  if contP line = true then (if fs = [] then .inl ((pos : Int), 3) else bodyE pos fs line 0)
  else if colonP line = line.length then .inl ((pos : Int), 3)
  else if validNameL (line.take (colonP line)) = false then .inl ((pos : Int), 12)
  else if fs.length = 64 then .inl ((pos : Int), 9)
  else bodyE pos (fs ++ [⟨line.take (colonP line), []⟩]) line (colonP line + 1)
def stepP (text : List UInt8) (pos : Nat) (fs : List Fld) : (Int × Int) ⊕ (List Fld × Nat) :=
  if spanL notNl (text.drop pos) = (text.drop pos).length then .inl ((text.length : Int), 4)
  else if 998 < spanL notNl (text.drop pos) then .inl (((pos + 998 : Nat) : Int), 5)
  else if spanL okByte ((text.drop pos).take (spanL notNl (text.drop pos))) < spanL notNl (text.drop pos) then .inl (((pos + spanL okByte ((text.drop pos).take (spanL notNl (text.drop pos))) : Nat) : Int), 6)
  else lineE text pos fs ((text.drop pos).take (spanL notNl (text.drop pos)))

theorem wordsP_failed : ∀ (ws : List (List UInt8)) (s : PSt) (line : List UInt8) (i : Nat), s.failed ≠ 0 → wordsP s line i ws = s
  | [], _, _, _, _ => rfl
  | x :: xs, s, line, i, h => by
    rw [wordsP_cons]
    split
    · rw [failP_ne _ _ _ h]; exact wordsP_failed xs s line _ h
    · exact wordsP_failed xs s line _ h
theorem wordsP_long : ∀ (ws : List (List UInt8)) (s : PSt) (line : List UInt8) (i : Nat), s.failed = 0 → wordsP s line i ws = match longAt line i ws with
    | some p => failP s ((s.pos + p : Nat) : Int) 5
    | none => s
  | [], _, _, _, _ => rfl
  | x :: xs, s, line, i, h => by
    rw [wordsP_cons]
    unfold longAt
    by_cases hx : 900 < x.length
    · rw [if_pos hx, if_pos hx]
      rw [wordsP_failed xs _ line _ (failP_failed0 (by decide))]
      simp
    · rw [if_neg hx, if_neg hx]
      exact wordsP_long xs s line _ h
/-- What one step of the list parser does. -/
def Does (s : PSt) (p0 : Int) : (Int × Int) ⊕ (List Fld × Nat) → Prop
  | .inl (pl, e) => s.failed = e ∧ s.place = pl ∧ e ≠ 0
  | .inr (fs, pos) => s = ⟨pos, fs, p0, 0⟩
theorem failP_does {s : PSt} {p e p0 : Int} (h : s.failed = 0) (he : e ≠ 0) : (failP s p e).failed = e ∧ (failP s p e).place = p ∧ e ≠ 0 := by
  unfold failP; rw [if_pos h]; exact ⟨rfl, rfl, he⟩
theorem bodyP_does (pos : Nat) (fs : List Fld) (p0 : Int) (line : List UInt8) (i n : Nat) (hn : n = line.length) :
    Does { bodyP ⟨pos, fs, p0, 0⟩ line i with pos := (bodyP ⟨pos, fs, p0, 0⟩ line i).pos + (n + 1) } p0 (bodyE pos fs line i) := by
  unfold bodyP bodyE
  dsimp only
  have hw := wordsP_long (wordsL (line.drop i)) ⟨pos, fs, p0, 0⟩ line i rfl
  rw [hw]
  cases hl : longAt line i (wordsL (line.drop i)) with
  | some p =>
    dsimp only
    have hf : (failP (⟨pos, fs, p0, 0⟩ : PSt) (((pos + p : Nat)) : Int) 5) = ⟨pos, fs, ((pos + p : Nat) : Int), 5⟩ := by unfold failP; rw [if_pos rfl]
    rw [hf]
    dsimp only
    split
    · rw [failP_ne _ _ _ (by show (5 : Int) ≠ 0; decide)]; exact ⟨rfl, rfl, by decide⟩
    · exact ⟨rfl, rfl, by decide⟩
  | none =>
    dsimp only
    split
    · exact failP_does (s := ⟨pos, setBody fs (joinW (wordsL (lastBody fs) ++ wordsL (line.drop i))), p0, 0⟩) (p := (pos : Int)) (e := 5) (p0 := p0) rfl (by decide)
    · show _ = _
      rw [hn]
theorem oneP_does (text : List UInt8) (pos : Nat) (fs : List Fld) (p0 : Int) : Does (oneP text ⟨pos, fs, p0, 0⟩) p0 (stepP text pos fs) := by
  unfold oneP stepP lineP
  dsimp only
  have hle := spanL_le notNl (text.drop pos)
  by_cases h1 : spanL notNl (text.drop pos) = (text.drop pos).length
  · rw [if_pos h1, if_pos h1]
    dsimp only
    rw [if_pos (failP_failed0 (by decide))]
    exact failP_does (s := ⟨pos, fs, p0, 0⟩) (p := (text.length : Int)) (e := 4) (p0 := p0) rfl (by decide)
  · rw [if_neg h1, if_neg h1]
    dsimp only
    generalize hn : spanL notNl (text.drop pos) = n at *
    have hll : ((text.drop pos).take n).length = n := by rw [List.length_take]; omega
    by_cases h2 : 998 < n
    · rw [if_pos h2, if_pos h2]
      have hf : (failP (⟨pos, fs, p0, 0⟩ : PSt) ((pos : Int) + 998) 5) = ⟨pos, fs, ((pos + 998 : Nat) : Int), 5⟩ := by unfold failP; rw [if_pos rfl]; simp
      rw [hf]
      split
      · rw [failP_ne _ _ _ (by show (5 : Int) ≠ 0; decide), if_pos (by show (5 : Int) ≠ 0; decide)]; exact ⟨rfl, rfl, by decide⟩
      · rw [if_pos (by show (5 : Int) ≠ 0; decide)]; exact ⟨rfl, rfl, by decide⟩
    · rw [if_neg h2, if_neg h2]
      by_cases h3 : spanL okByte ((text.drop pos).take n) < n
      · rw [if_pos h3, if_pos h3, if_pos (failP_failed0 (by decide))]
        have := failP_does (s := ⟨pos, fs, p0, 0⟩) (p := (pos : Int) + spanL okByte ((text.drop pos).take n)) (e := 6) (p0 := p0) rfl (by decide)
        simpa [Does] using this
      · rw [if_neg h3, if_neg h3, if_neg (by simp)]
        generalize (text.drop pos).take n = line at *
        unfold switchP lineE
        dsimp only
        by_cases h4 : contP line = true
        · rw [if_pos h4, if_pos h4]
          by_cases h5 : fs = []
          · rw [if_pos h5, if_pos h5]; exact failP_does (s := ⟨pos, fs, p0, 0⟩) (p := (pos : Int)) (e := 3) (p0 := p0) rfl (by decide)
          · rw [if_neg h5, if_neg h5]; exact bodyP_does pos fs p0 line 0 _ rfl
        · rw [if_neg h4, if_neg h4]
          by_cases h5 : colonP line = line.length
          · rw [if_pos h5, if_pos h5]; exact failP_does (s := ⟨pos, fs, p0, 0⟩) (p := (pos : Int)) (e := 3) (p0 := p0) rfl (by decide)
          · rw [if_neg h5, if_neg h5]
            by_cases h6 : validNameL (line.take (colonP line)) = false
            · rw [if_pos h6, if_pos h6]; exact failP_does (s := ⟨pos, fs, p0, 0⟩) (p := (pos : Int)) (e := 12) (p0 := p0) rfl (by decide)
            · rw [if_neg h6, if_neg h6]
              by_cases h7 : fs.length = 64
              · rw [if_pos h7, if_pos h7]; exact failP_does (s := ⟨pos, fs, p0, 0⟩) (p := (pos : Int)) (e := 9) (p0 := p0) rfl (by decide)
              · rw [if_neg h7, if_neg h7]; exact bodyP_does pos _ p0 line _ _ rfl
end Go.Proofs.Ytfeciafdioepiaa
