/- The row of ArticlePrints, where what it reads is of bulk at most 1048576, over the listed tables, and its tied card. -/
import Derived.Test.YtfeciafdioepiaaGreatDoorHPsS12
import Derived.Test.YtfeciafdioepiaaGreatDoorHPsS2
import Derived.Test.YtfeciafdioepiaaGreatDoorHPsS5
import Derived.Test.YtfeciafdioepiaaGreatDoorHPsS6
import Derived.Test.YtfeciafdioepiaaGreatDoorHPsS9
import Derived.Test.YtfeciafdioepiaaGreatDoorHPsS8
import Derived.Test.YtfeciafdioepiaaGreatDoorHPsS7
import Derived.Test.YtfeciafdioepiaaGreatDoorHPsS10
import Derived.Test.YtfeciafdioepiaaGreatDoorHPsS11
import Derived.Lib.IndexMore
import Derived.Test.YtfeciafdioepiaaGreatDoorRows
import Derived.Test.YtfeciafdioepiaaGreatDoorCards
import Derived.Test.YtfeciafdioepiaaGreatDoorTie
import Derived.WalkKit
import Derived.ProofKit
import Derived.OpenShut
import Derived.ShutString
import Derived.ChangeOld
import Derived.Below
import Derived.SizedLaws
import Derived.HandedShaped
import Derived.LaidMore
import Derived.Lay
import Derived.SevenTiedAt
import Derived.Deep.DeepHandedRow
import Derived.Stop.Joined
set_option linter.unusedVariables false
set_option linter.unusedSimpArgs false
/- Plain: Of, To, Same; the reference's parser against the list parser. -/
namespace Go.Proofs.YtfeciafdioepiaaGreatDoor
open Go.RowKit Go.Proofs Go.Proofs.YtfeciafdioepiaaGreatDoorW.PrintWords Go.Proofs.YtfeciafdioepiaaGreatDoor.PA

/-! ### add -/
/-- Where the first word that is too long begins. -/
def longAt (line : List UInt8) : Nat → List (List UInt8) → Option Nat
  | _, [] => none
  | i, x :: xs => if 900 < x.length then some (spanA isBlank line i) else longAt line (spanA isBlank line i + x.length) xs
end Go.Proofs.YtfeciafdioepiaaGreatDoor

/- Plain: one line of the reference's parser and of the list parser. -/
namespace Go.Proofs.YtfeciafdioepiaaGreatDoor
open Go.RowKit Go.Proofs Go.Proofs.YtfeciafdioepiaaGreatDoorW.PrintWords Go.Proofs.YtfeciafdioepiaaGreatDoor.PA

/-! ### words and joins -/
def wordOk (x : List UInt8) : Prop := x ≠ [] ∧ ∀ c ∈ x, isBlank c = false
theorem wordsGo_ok (l : List UInt8) : ∀ cur, (∀ c ∈ cur, isBlank c = false) → ∀ x ∈ wordsGo l cur, wordOk x := by
  induction l with
  | nil =>
    intro cur hc x hx
    unfold wordsGo at hx
    split at hx
    · simp at hx
    · rename_i h; simp at hx; subst hx; exact ⟨h, hc⟩
  | cons c l ih =>
    intro cur hc x hx
    unfold wordsGo at hx
    by_cases hb : isBlank c = true
    · rw [if_pos hb] at hx
      by_cases h0 : cur = []
      · rw [if_pos h0] at hx; exact ih [] (by simp) x hx
      · rw [if_neg h0] at hx
        rcases List.mem_cons.1 hx with rfl | hx
        · exact ⟨h0, hc⟩
        · exact ih [] (by simp) x hx
    · rw [if_neg hb] at hx
      refine ih (cur ++ [c]) (fun d hd => ?_) x hx
      rcases List.mem_append.1 hd with h | h
      · exact hc d h
      · simp at h; subst h; simpa using hb
theorem wordsL_ok (l : List UInt8) : ∀ x ∈ wordsL l, wordOk x := wordsGo_ok l [] (by simp)
theorem wordsGo_app (x : List UInt8) (hx : ∀ c ∈ x, isBlank c = false) (r : List UInt8) : ∀ cur, wordsGo (x ++ r) cur = wordsGo r (cur ++ x) := by
  induction x with
  | nil => intro cur; simp
  | cons c x ih =>
    intro cur
    rw [List.cons_append]
    conv => lhs; unfold wordsGo
    have := hx c (by simp)
    rw [if_neg (by simp [this]), ih (fun d hd => hx d (by simp [hd])), List.append_assoc]; rfl
theorem words_join : ∀ (ws : List (List UInt8)), (∀ x ∈ ws, wordOk x) → wordsL (joinW ws) = ws
  | [], _ => rfl
  | [x], h => by
    have hx := h x (by simp)
    show wordsGo (joinW [x]) [] = [x]
    have : joinW [x] = x ++ [] := by simp [joinW, List.intercalate]
    rw [this, wordsGo_app x hx.2]
    simp [wordsGo, hx.1]
  | x :: y :: ws, h => by
    have hx := h x (by simp)
    have ih := words_join (y :: ws) (fun z hz => h z (by simp at hz ⊢; exact Or.inr hz))
    have : joinW (x :: y :: ws) = x ++ (32 :: joinW (y :: ws)) := by simp [joinW, List.intercalate_cons_cons]
    rw [this]
    unfold wordsL
    rw [wordsGo_app x hx.2, List.nil_append]
    conv => lhs; unfold wordsGo
    rw [if_pos (by decide), if_neg hx.1]
    congr 1
/-! ### one line -/
def bodyE (pos : Nat) (fs : List Fld) (line : List UInt8) (i : Nat) : (Int × Int) ⊕ (List Fld × Nat) :=
  match longAt line i (wordsL (line.drop i)) with
  | some p => .inl (((pos + p : Nat) : Int), 5)
  | none => if 8192 < (joinW (wordsL (lastBody fs) ++ wordsL (line.drop i))).length then .inl ((pos : Int), 5) else .inr (setBody fs (joinW (wordsL (lastBody fs) ++ wordsL (line.drop i))), pos + (line.length + 1))
def lineE (text : List UInt8) (pos : Nat) (fs : List Fld) (line : List UInt8) : (Int × Int) ⊕ (List Fld × Nat) :=
  if contP line = true then (if fs = [] then .inl ((pos : Int), 3) else bodyE pos fs line 0)
  else if colonP line = line.length then .inl ((pos : Int), 3)
  else if validNameL (line.take (colonP line)) = false then .inl ((pos : Int), 12)
  else if fs.length = 64 then .inl ((pos : Int), 9)
  else bodyE pos (fs ++ [⟨line.take (colonP line), []⟩]) line (colonP line + 1)
def stepP (text : List UInt8) (pos : Nat) (fs : List Fld) : (Int × Int) ⊕ (List Fld × Nat) :=
  if spanL notNl (text.drop pos) = (text.drop pos).length then .inl ((text.length : Int), 4)
  else if 998 < spanL notNl (text.drop pos) then .inl (((pos + 998 : Nat) : Int), 5)
  else if spanL okByte ((text.drop pos).take (spanL notNl (text.drop pos))) < spanL notNl (text.drop pos) then .inl (((pos + spanL okByte ((text.drop pos).take (spanL notNl (text.drop pos))) : Nat) : Int), 6)
  else lineE text pos fs ((text.drop pos).take (spanL notNl (text.drop pos)))

theorem wordsP_failed : ∀ (ws : List (List UInt8)) (s : PSt) (line : List UInt8) (i : Nat), s.failed ≠ 0 → wordsP s line i ws = s
  | [], _, _, _, _ => rfl
  | x :: xs, s, line, i, h => by
    rw [wordsP_cons]
    split
    · rw [failP_ne _ _ _ h]; exact wordsP_failed xs s line _ h
    · exact wordsP_failed xs s line _ h
theorem wordsP_long : ∀ (ws : List (List UInt8)) (s : PSt) (line : List UInt8) (i : Nat), s.failed = 0 → wordsP s line i ws = match longAt line i ws with
    | some p => failP s ((s.pos + p : Nat) : Int) 5
    | none => s
  | [], _, _, _, _ => rfl
  | x :: xs, s, line, i, h => by
    rw [wordsP_cons]
    unfold longAt
    by_cases hx : 900 < x.length
    · rw [if_pos hx, if_pos hx]
      rw [wordsP_failed xs _ line _ (failP_failed0 (by decide))]
      simp
    · rw [if_neg hx, if_neg hx]
      exact wordsP_long xs s line _ h
/-- What one step of the list parser does. -/
def Does (s : PSt) (p0 : Int) : (Int × Int) ⊕ (List Fld × Nat) → Prop
  | .inl (pl, e) => s.failed = e ∧ s.place = pl ∧ e ≠ 0
  | .inr (fs, pos) => s = ⟨pos, fs, p0, 0⟩
theorem failP_does {s : PSt} {p e p0 : Int} (h : s.failed = 0) (he : e ≠ 0) : (failP s p e).failed = e ∧ (failP s p e).place = p ∧ e ≠ 0 := by
  unfold failP; rw [if_pos h]; exact ⟨rfl, rfl, he⟩
theorem bodyP_does (pos : Nat) (fs : List Fld) (p0 : Int) (line : List UInt8) (i n : Nat) (hn : n = line.length) :
    Does { bodyP ⟨pos, fs, p0, 0⟩ line i with pos := (bodyP ⟨pos, fs, p0, 0⟩ line i).pos + (n + 1) } p0 (bodyE pos fs line i) := by
  unfold bodyP bodyE
  dsimp only
  have hw := wordsP_long (wordsL (line.drop i)) ⟨pos, fs, p0, 0⟩ line i rfl
  rw [hw]
  cases hl : longAt line i (wordsL (line.drop i)) with
  | some p =>
    dsimp only
    have hf : (failP (⟨pos, fs, p0, 0⟩ : PSt) (((pos + p : Nat)) : Int) 5) = ⟨pos, fs, ((pos + p : Nat) : Int), 5⟩ := by unfold failP; rw [if_pos rfl]
    rw [hf]
    dsimp only
    split
    · rw [failP_ne _ _ _ (by show (5 : Int) ≠ 0; decide)]; exact ⟨rfl, rfl, by decide⟩
    · exact ⟨rfl, rfl, by decide⟩
  | none =>
    dsimp only
    split
    · exact failP_does (s := ⟨pos, setBody fs (joinW (wordsL (lastBody fs) ++ wordsL (line.drop i))), p0, 0⟩) (p := (pos : Int)) (e := 5) (p0 := p0) rfl (by decide)
    · show _ = _
      rw [hn]
theorem oneP_does (text : List UInt8) (pos : Nat) (fs : List Fld) (p0 : Int) : Does (oneP text ⟨pos, fs, p0, 0⟩) p0 (stepP text pos fs) := by
  unfold oneP stepP lineP
  dsimp only
  have hle := spanL_le notNl (text.drop pos)
  by_cases h1 : spanL notNl (text.drop pos) = (text.drop pos).length
  · rw [if_pos h1, if_pos h1]
    dsimp only
    rw [if_pos (failP_failed0 (by decide))]
    exact failP_does (s := ⟨pos, fs, p0, 0⟩) (p := (text.length : Int)) (e := 4) (p0 := p0) rfl (by decide)
  · rw [if_neg h1, if_neg h1]
    dsimp only
    generalize hn : spanL notNl (text.drop pos) = n at *
    have hll : ((text.drop pos).take n).length = n := by rw [List.length_take]; omega
    by_cases h2 : 998 < n
    · rw [if_pos h2, if_pos h2]
      have hf : (failP (⟨pos, fs, p0, 0⟩ : PSt) ((pos : Int) + 998) 5) = ⟨pos, fs, ((pos + 998 : Nat) : Int), 5⟩ := by unfold failP; rw [if_pos rfl]; simp
      rw [hf]
      split
      · rw [failP_ne _ _ _ (by show (5 : Int) ≠ 0; decide), if_pos (by show (5 : Int) ≠ 0; decide)]; exact ⟨rfl, rfl, by decide⟩
      · rw [if_pos (by show (5 : Int) ≠ 0; decide)]; exact ⟨rfl, rfl, by decide⟩
    · rw [if_neg h2, if_neg h2]
      by_cases h3 : spanL okByte ((text.drop pos).take n) < n
      · rw [if_pos h3, if_pos h3, if_pos (failP_failed0 (by decide))]
        have := failP_does (s := ⟨pos, fs, p0, 0⟩) (p := (pos : Int) + spanL okByte ((text.drop pos).take n)) (e := 6) (p0 := p0) rfl (by decide)
        simpa [Does] using this
      · rw [if_neg h3, if_neg h3, if_neg (by simp)]
        generalize (text.drop pos).take n = line at *
        unfold switchP lineE
        dsimp only
        by_cases h4 : contP line = true
        · rw [if_pos h4, if_pos h4]
          by_cases h5 : fs = []
          · rw [if_pos h5, if_pos h5]; exact failP_does (s := ⟨pos, fs, p0, 0⟩) (p := (pos : Int)) (e := 3) (p0 := p0) rfl (by decide)
          · rw [if_neg h5, if_neg h5]; exact bodyP_does pos fs p0 line 0 _ rfl
        · rw [if_neg h4, if_neg h4]
          by_cases h5 : colonP line = line.length
          · rw [if_pos h5, if_pos h5]; exact failP_does (s := ⟨pos, fs, p0, 0⟩) (p := (pos : Int)) (e := 3) (p0 := p0) rfl (by decide)
          · rw [if_neg h5, if_neg h5]
            by_cases h6 : validNameL (line.take (colonP line)) = false
            · rw [if_pos h6, if_pos h6]; exact failP_does (s := ⟨pos, fs, p0, 0⟩) (p := (pos : Int)) (e := 12) (p0 := p0) rfl (by decide)
            · rw [if_neg h6, if_neg h6]
              by_cases h7 : fs.length = 64
              · rw [if_pos h7, if_pos h7]; exact failP_does (s := ⟨pos, fs, p0, 0⟩) (p := (pos : Int)) (e := 9) (p0 := p0) rfl (by decide)
              · rw [if_neg h7, if_neg h7]; exact bodyP_does pos _ p0 line _ _ rfl
end Go.Proofs.YtfeciafdioepiaaGreatDoor

/- Plain: the reference's parser does what the list parser does. -/
namespace Go.Proofs.YtfeciafdioepiaaGreatDoor
open Go.RowKit Go.Proofs Go.Proofs.YtfeciafdioepiaaGreatDoorW.PrintWords Go.Proofs.YtfeciafdioepiaaGreatDoor.PA

def toR (f : Fld) : S78 := ⟨mkS f.name, mkS f.body⟩
end Go.Proofs.YtfeciafdioepiaaGreatDoor

/- Plain: the two parsers agree; the law of the parsing. -/
namespace Go.Proofs.YtfeciafdioepiaaGreatDoor
open Go.RowKit Go.Proofs Go.Proofs.YtfeciafdioepiaaGreatDoorW.PrintWords Go.Proofs.YtfeciafdioepiaaGreatDoor.PA

structure CanP (fs : List Fld) : Prop where
  len : fs.length ≤ 64
  can : joinW (wordsL (lastBody fs)) = lastBody fs
  body : (lastBody fs).length ≤ 8192
theorem lastBody_snoc (fs : List Fld) (f : Fld) : lastBody (fs ++ [f]) = f.body := by unfold lastBody; simp
theorem lastBody_set (fs : List Fld) (h : fs ≠ []) (b : List UInt8) : lastBody (setBody fs b) = b := by
  unfold setBody
  rw [List.getLast?_eq_some_getLast h]
  exact lastBody_snoc _ _
theorem setBody_len (fs : List Fld) (b : List UInt8) : (setBody fs b).length = fs.length := by
  by_cases h : fs = []
  · subst h; rfl
  · have := congrArg List.length (setBody_map id fs b h); simpa using this
theorem bodyE_can {pos : Nat} {fs : List Fld} {line : List UInt8} {i : Nat} {fs' : List Fld} {pos' : Nat} (h0 : fs ≠ []) (hc : CanP fs) (h : bodyE pos fs line i = .inr (fs', pos')) : CanP fs' ∧ pos' = pos + (line.length + 1) := by
  unfold bodyE at h
  split at h
  · cases h
  · split at h
    · cases h
    · rename_i h8
      injection h with h
      injection h with h1 h2
      subst h1 h2
      refine ⟨⟨by rw [setBody_len]; exact hc.len, ?_, ?_⟩, rfl⟩
      · rw [lastBody_set fs h0, words_join _ (fun x hx => by rcases List.mem_append.1 hx with h | h <;> exact wordsL_ok _ x h)]
      · rw [lastBody_set fs h0]; omega
theorem lineE_can {text : List UInt8} {pos : Nat} {fs : List Fld} {line : List UInt8} {fs' : List Fld} {pos' : Nat} (hc : CanP fs) (h : lineE text pos fs line = .inr (fs', pos')) : CanP fs' ∧ pos' = pos + (line.length + 1) := by
  unfold lineE at h
  split at h
  · split at h
    · cases h
    · exact bodyE_can (by assumption) hc h
  · split at h
    · cases h
    · split at h
      · cases h
      · split at h
        · cases h
        · have := hc.len
          exact bodyE_can (by simp) ⟨by simp; omega, by rw [lastBody_snoc]; rfl, by rw [lastBody_snoc]; simp⟩ h
theorem stepP_can {text : List UInt8} {pos : Nat} {fs : List Fld} {fs' : List Fld} {pos' : Nat} (hc : CanP fs) (h : stepP text pos fs = .inr (fs', pos')) : CanP fs' ∧ pos < pos' ∧ pos' ≤ text.length := by
  unfold stepP at h
  have hle := spanL_le notNl (text.drop pos)
  split at h
  · cases h
  · split at h
    · cases h
    · split at h
      · cases h
      · rename_i h1 _ _
        obtain ⟨h2, h3⟩ := lineE_can hc h
        refine ⟨h2, ?_⟩
        rw [List.length_take] at h3
        rw [List.length_drop] at h1 hle h3
        omega

theorem loopP_stop (text : List UInt8) (m : Nat) (s : PSt) (h : ¬ (s.failed = 0 ∧ s.pos < text.length)) : loopP text m s = s := by
  cases m with
  | zero => rfl
  | succ m => unfold loopP; rw [if_neg h]
end Go.Proofs.YtfeciafdioepiaaGreatDoor

/- Plain: what is printed is parsed back. -/
namespace Go.Proofs.YtfeciafdioepiaaGreatDoor
open Go.RowKit Go.Proofs Go.Proofs.YtfeciafdioepiaaGreatDoorW.PrintWords Go.Proofs.YtfeciafdioepiaaGreatDoor.PA

/-- Some steps of the parser. -/
def stepN (text : List UInt8) : Nat → Nat → List Fld → Option (Nat × List Fld)
  | 0, pos, fs => some (pos, fs)
  | n + 1, pos, fs => if pos < text.length then (match stepP text pos fs with
    | .inr (fs', pos') => stepN text n pos' fs'
    | .inl _ => none) else none
def Steps (text : List UInt8) (pos : Nat) (fs : List Fld) (pos' : Nat) (fs' : List Fld) : Prop := ∃ n, stepN text n pos fs = some (pos', fs')
theorem Steps.refl (text : List UInt8) (pos : Nat) (fs : List Fld) : Steps text pos fs pos fs := ⟨0, rfl⟩
theorem Steps.trans {text : List UInt8} {p1 p2 p3 : Nat} {f1 f2 f3 : List Fld} (h : Steps text p1 f1 p2 f2) (k : Steps text p2 f2 p3 f3) : Steps text p1 f1 p3 f3 := by
  obtain ⟨n, h⟩ := h
  obtain ⟨m, k⟩ := k
  refine ⟨n + m, ?_⟩
  induction n generalizing p1 f1 with
  | zero => simp only [stepN] at h; injection h with h; injection h with h1 h2; subst h1 h2; rw [Nat.zero_add]; exact k
  | succ n ih =>
    rw [show n + 1 + m = (n + m) + 1 by omega]
    unfold stepN at h ⊢
    split at h
    · rename_i hp
      rw [if_pos hp]
      cases hs : stepP text p1 f1 with
      | inl x => rw [hs] at h; cases h
      | inr x => rw [hs] at h; exact ih h
    · cases h
theorem Steps.one {text : List UInt8} {pos pos' : Nat} {fs fs' : List Fld} (hp : pos < text.length) (h : stepP text pos fs = .inr (fs', pos')) : Steps text pos fs pos' fs' := ⟨1, by unfold stepN; rw [if_pos hp, h]; rfl⟩
theorem Steps.parse {text : List UInt8} (hl : text.length ≤ 65536) {fs : List Fld} (h : Steps text 0 [] text.length fs) : parseP text = (fs, 0, 0) := by
  obtain ⟨n, h⟩ := h
  have key : ∀ (n m pos : Nat) (gs : List Fld), text.length - pos < m → pos ≤ text.length → CanP gs → stepN text n pos gs = some (text.length, fs) → loopP text m ⟨pos, gs, 0, 0⟩ = ⟨text.length, fs, 0, 0⟩ := by
    intro n
    induction n with
    | zero =>
      intro m pos gs hm hp hc h
      simp only [stepN] at h
      injection h with h
      injection h with h1 h2
      subst h1 h2
      exact loopP_stop text m _ (fun h => absurd h.2 (by simp))
    | succ n ih =>
      intro m pos gs hm hp hc h
      unfold stepN at h
      split at h
      · rename_i hlt
        obtain ⟨m, rfl⟩ : ∃ k, m = k + 1 := ⟨m - 1, by omega⟩
        have hd := oneP_does text pos gs 0
        cases hs : stepP text pos gs with
        | inl x => rw [hs] at h; cases h
        | inr x =>
          obtain ⟨fs', pos'⟩ := x
          rw [hs] at h hd
          obtain ⟨hc', hp1, hp2⟩ := stepP_can hc hs
          have hd' : oneP text ⟨pos, gs, 0, 0⟩ = ⟨pos', fs', 0, 0⟩ := hd
          unfold loopP
          rw [if_pos ⟨rfl, hlt⟩, hd']
          exact ih m pos' fs' (by omega) hp2 hc' h
      · cases h
  unfold parseP
  rw [if_neg (by omega)]
  dsimp only
  rw [key n (text.length + 1) 0 [] (by omega) (by omega) ⟨by simp, rfl, by simp [lastBody]⟩ h]
  rfl

/-! ### one printed line -/
theorem spanL_all (p : UInt8 → Bool) : ∀ l : List UInt8, (∀ c ∈ l, p c = true) → spanL p l = l.length
  | [], _ => rfl
  | c :: l, h => by unfold spanL; rw [if_pos (h c (by simp)), spanL_all p l (fun d hd => h d (by simp [hd]))]; rfl
theorem spanL_app (p : UInt8 → Bool) : ∀ (l : List UInt8) (c : UInt8) (r : List UInt8), (∀ d ∈ l, p d = true) → p c = false → spanL p (l ++ c :: r) = l.length
  | [], c, r, _, hc => by simp [spanL, hc]
  | d :: l, c, r, h, hc => by
    rw [List.cons_append]; unfold spanL
    rw [if_pos (h d (by simp)), spanL_app p l c r (fun e he => h e (by simp [he])) hc]; rfl
theorem step_line (text : List UInt8) (pos : Nat) (fs : List Fld) (line rest : List UInt8) (h : text.drop pos = line ++ 10 :: rest) (h1 : ∀ c ∈ line, notNl c = true) (h2 : ∀ c ∈ line, okByte c = true) (h3 : line.length ≤ 998) :
    pos < text.length ∧ stepP text pos fs = lineE text pos fs line := by
  have hlen : text.length - pos = line.length + (rest.length + 1) := by
    have := congrArg List.length h
    rw [List.length_drop, List.length_append, List.length_cons] at this; exact this
  refine ⟨by omega, ?_⟩
  have hn : spanL notNl (text.drop pos) = line.length := by rw [h]; exact spanL_app notNl line 10 rest h1 (by decide)
  have ht : (text.drop pos).take line.length = line := by rw [h]; simp
  unfold stepP
  rw [hn, ht, if_neg (by rw [List.length_drop]; omega), if_neg (by omega), spanL_all okByte line h2, if_neg (by omega)]

/-- Words behind spaces. -/
def tailW (ws : List (List UInt8)) : List UInt8 := ws.flatMap (32 :: ·)
theorem tailW_snoc (ws : List (List UInt8)) (x : List UInt8) : tailW (ws ++ [x]) = tailW ws ++ 32 :: x := by simp [tailW]
theorem tailW_join (ws : List (List UInt8)) (h : ws ≠ []) : tailW ws = 32 :: joinW ws := by
  induction ws with
  | nil => exact absurd rfl h
  | cons x t ih =>
    cases t with
    | nil => simp [tailW, joinW, List.intercalate]
    | cons y t =>
      have := ih (by simp)
      have e : tailW (x :: y :: t) = 32 :: (x ++ tailW (y :: t)) := by simp [tailW]
      rw [e, this]
      simp [joinW, List.intercalate_cons_cons]
theorem wordsL_tail (ws : List (List UInt8)) (h : ∀ x ∈ ws, wordOk x) : wordsL (tailW ws) = ws := by
  by_cases h0 : ws = []
  · subst h0; rfl
  · rw [tailW_join ws h0]
    have : wordsL (32 :: joinW ws) = wordsL (joinW ws) := by
      unfold wordsL
      conv => lhs; unfold wordsGo
      rw [if_pos (by decide), if_pos rfl]
    rw [this, words_join ws h]
theorem longAt_none : ∀ (ws : List (List UInt8)) (line : List UInt8) (i : Nat), (∀ x ∈ ws, x.length ≤ 900) → longAt line i ws = none
  | [], _, _, _ => rfl
  | x :: xs, line, i, h => by
    unfold longAt
    have := h x (by simp)
    rw [if_neg (by omega)]
    exact longAt_none xs line _ (fun y hy => h y (by simp [hy]))
/-- A word that may be printed. -/
def goodW (x : List UInt8) : Prop := wordOk x ∧ x.length ≤ 900 ∧ ∀ c ∈ x, okByte c = true ∧ notNl c = true
theorem tailW_bytes (ws : List (List UInt8)) (h : ∀ x ∈ ws, goodW x) : ∀ c ∈ tailW ws, okByte c = true ∧ notNl c = true := by
  intro c hc
  unfold tailW at hc
  rw [List.mem_flatMap] at hc
  obtain ⟨x, hx, hc⟩ := hc
  rcases List.mem_cons.1 hc with rfl | hc
  · exact ⟨by decide, by decide⟩
  · exact (h x hx).2.2 c hc
theorem setBody_set (fs : List Fld) (a b : List UInt8) : setBody (setBody fs a) b = setBody fs b := by
  by_cases h : fs = []
  · subst h; rfl
  · have e : ∀ c, setBody fs c = fs.dropLast ++ [⟨(fs.getLast h).name, c⟩] := fun c => by
      unfold setBody; rw [List.getLast?_eq_some_getLast h]
    rw [e a, e b]
    unfold setBody
    simp
theorem setBody_snoc (fs : List Fld) (n a b : List UInt8) : setBody (fs ++ [⟨n, a⟩]) b = fs ++ [⟨n, b⟩] := by
  unfold setBody; simp
theorem setBody_ne (fs : List Fld) (h : fs ≠ []) (b : List UInt8) : setBody fs b ≠ [] := by
  intro e
  have := congrArg List.length e
  rw [setBody_len] at this
  exact h (List.eq_nil_of_length_eq_zero this)
theorem joinW_app_len (a b : List (List UInt8)) : (joinW a).length ≤ (joinW (a ++ b)).length := by
  induction b generalizing a with
  | nil => simp
  | cons x b ih =>
    have := ih (a ++ [x])
    rw [List.append_assoc] at this
    refine Nat.le_trans ?_ this
    by_cases h : a = []
    · subst h; simp [joinW, List.intercalate]
    · rw [joinW_snoc a x h]; simp
theorem foldW_out : ∀ (ws : List (List UInt8)) (out line : List UInt8) (e : Bool), foldW ws out line e = out ++ foldW ws [] line e
  | [], out, line, e => by simp [foldW]
  | x :: ws, out, line, e => by
    unfold foldW
    split
    · rw [foldW_out ws (out ++ (line ++ [10])), foldW_out ws ([] ++ (line ++ [10]))]; simp
    · exact foldW_out ws out _ false

/-- The lines that go on. -/
theorem cont_lines (text : List UInt8) : ∀ (ws cur W0 : List (List UInt8)) (pos : Nat) (fs : List Fld) (rest : List UInt8), cur ≠ [] → fs ≠ [] → lastBody fs = joinW W0 → (∀ x ∈ W0, wordOk x) → (∀ x ∈ cur, goodW x) → (∀ x ∈ ws, goodW x) →
    (tailW cur).length ≤ 998 → (joinW (W0 ++ cur ++ ws)).length ≤ 8192 → text.drop pos = foldW ws [] (tailW cur) false ++ rest →
    Steps text pos fs (pos + (foldW ws [] (tailW cur) false).length) (setBody fs (joinW (W0 ++ cur ++ ws))) := by
  have flush : ∀ (cur W0 : List (List UInt8)) (pos : Nat) (fs : List Fld) (rest : List UInt8), cur ≠ [] → fs ≠ [] → lastBody fs = joinW W0 → (∀ x ∈ W0, wordOk x) → (∀ x ∈ cur, goodW x) → (tailW cur).length ≤ 998 → (joinW (W0 ++ cur)).length ≤ 8192 →
      text.drop pos = tailW cur ++ 10 :: rest → Steps text pos fs (pos + ((tailW cur).length + 1)) (setBody fs (joinW (W0 ++ cur))) := by
    intro cur W0 pos fs rest h0 hf hb hw hc hl h8 ht
    obtain ⟨hp, hs⟩ := step_line text pos fs (tailW cur) rest ht (fun c hc' => (tailW_bytes cur hc c hc').2) (fun c hc' => (tailW_bytes cur hc c hc').1) hl
    refine Steps.one hp ?_
    rw [hs]
    unfold lineE
    have hcp : contP (tailW cur) = true := by rw [tailW_join cur h0]; rfl
    rw [if_pos hcp, if_neg hf]
    unfold bodyE
    rw [List.drop_zero, wordsL_tail cur (fun x hx => (hc x hx).1), longAt_none cur _ _ (fun x hx => (hc x hx).2.1), hb, words_join W0 hw]
    dsimp only
    rw [if_neg (by omega)]
  intro ws
  induction ws with
  | nil =>
    intro cur W0 pos fs rest h0 hf hb hw hc _ hl h8 ht
    have e : foldW [] [] (tailW cur) false = tailW cur ++ [10] := by simp [foldW]
    rw [e] at ht ⊢
    rw [List.append_nil] at h8 ⊢
    have := flush cur W0 pos fs rest h0 hf hb hw hc hl h8 (by rw [ht]; simp)
    simpa using this
  | cons x ws ih =>
    intro cur W0 pos fs rest h0 hf hb hw hc hws hl h8 ht
    have hx := hws x (by simp)
    have hws' : ∀ y ∈ ws, goodW y := fun y hy => hws y (by simp [hy])
    by_cases hfit : 78 < (tailW cur).length + 1 + x.length
    · have e : foldW (x :: ws) [] (tailW cur) false = (tailW cur ++ [10]) ++ foldW ws [] (32 :: x) false := by
        conv => lhs; unfold foldW
        rw [if_pos ⟨rfl, hfit⟩, foldW_out]; simp
      have e1 : tailW [x] = 32 :: x := by simp [tailW]
      rw [e] at ht ⊢
      have h8' : (joinW (W0 ++ cur)).length ≤ 8192 := by
        have := joinW_app_len (W0 ++ cur) (x :: ws); omega
      have s1 := flush cur W0 pos fs (foldW ws [] (32 :: x) false ++ rest) h0 hf hb hw hc hl h8' (by rw [ht]; simp)
      have hd : text.drop (pos + ((tailW cur).length + 1)) = foldW ws [] (tailW [x]) false ++ rest := by
        rw [← List.drop_drop, ht, e1]
        have : (tailW cur).length + 1 = (tailW cur ++ [10]).length := by simp
        rw [this, List.append_assoc, List.drop_left]
      have s2 := ih [x] (W0 ++ cur) (pos + ((tailW cur).length + 1)) (setBody fs (joinW (W0 ++ cur))) rest (by simp) (setBody_ne fs hf _) (lastBody_set fs hf _)
        (fun y hy => by rcases List.mem_append.1 hy with h | h; exact hw y h; exact (hc y h).1) (fun y hy => by simp at hy; subst hy; exact hx) hws' (by rw [e1]; have := hx.2.1; simp; omega) (by simpa using h8) hd
      have s3 := s1.trans s2
      rw [setBody_set, e1] at s3
      have hj : W0 ++ cur ++ [x] ++ ws = W0 ++ cur ++ x :: ws := by simp
      rw [hj] at s3
      have hp : pos + ((tailW cur).length + 1) + (foldW ws [] (32 :: x) false).length = pos + ((tailW cur ++ [10]) ++ foldW ws [] (32 :: x) false).length := by simp; omega
      rw [hp] at s3
      exact s3
    · have e : foldW (x :: ws) [] (tailW cur) false = foldW ws [] (tailW (cur ++ [x])) false := by
        conv => lhs; unfold foldW
        rw [if_neg (fun h => hfit h.2), tailW_snoc]
      rw [e] at ht ⊢
      have hj : W0 ++ cur ++ x :: ws = W0 ++ (cur ++ [x]) ++ ws := by simp
      rw [hj] at h8 ⊢
      exact ih (cur ++ [x]) W0 pos fs rest (by simp) hf hb hw (fun y hy => by rcases List.mem_append.1 hy with h | h; exact hc y h; simp at h; subst h; exact hx) hws' (by rw [tailW_snoc]; simp; omega) h8 ht

theorem name_bytes (c : UInt8) (h : nameByte c = true) : okByte c = true ∧ notNl c = true ∧ notColon c = true ∧ isBlank c = false := by
  have key : ∀ c : UInt8, nameByte c = true → okByte c = true ∧ notNl c = true ∧ notColon c = true ∧ isBlank c = false := by
    apply all_u8
    decide +kernel
  exact key c h
theorem valid_parts {n : List UInt8} (h : validNameL n = true) : n.length ≤ 40 ∧ n ≠ [] ∧ ∀ c ∈ n, nameByte c = true := by
  unfold validNameL at h
  simp only [Bool.and_eq_true, decide_eq_true_eq, List.all_eq_true] at h
  refine ⟨h.1.1, ?_, h.2⟩
  rintro rfl
  simp at h
/-- The first line of a field. -/
theorem first_flush (text : List UInt8) (cur : List (List UInt8)) (pos : Nat) (fs : List Fld) (name rest : List UInt8) (hn : validNameL name = true) (hf : fs.length < 64) (hc : ∀ x ∈ cur, goodW x) (hl : (name ++ [58] ++ tailW cur).length ≤ 998) (h8 : (joinW cur).length ≤ 8192)
    (ht : text.drop pos = (name ++ [58] ++ tailW cur) ++ 10 :: rest) : Steps text pos fs (pos + ((name ++ [58] ++ tailW cur).length + 1)) (fs ++ [⟨name, joinW cur⟩]) := by
  obtain ⟨hn40, hn0, hnb⟩ := valid_parts hn
  have hbytes : ∀ c ∈ name ++ [58] ++ tailW cur, okByte c = true ∧ notNl c = true := by
    intro c h
    rcases List.mem_append.1 h with h | h
    · rcases List.mem_append.1 h with h | h
      · have := name_bytes c (hnb c h); exact ⟨this.1, this.2.1⟩
      · simp at h; subst h; exact ⟨by decide, by decide⟩
    · exact tailW_bytes cur hc c h
  obtain ⟨hp, hs⟩ := step_line text pos fs _ rest ht (fun c h => (hbytes c h).2) (fun c h => (hbytes c h).1) hl
  refine Steps.one hp ?_
  rw [hs]
  have hcol : colonP (name ++ [58] ++ tailW cur) = name.length := by
    unfold colonP
    rw [List.append_assoc]
    exact spanL_app notColon name 58 (tailW cur) (fun d hd => (name_bytes d (hnb d hd)).2.2.1) (by decide)
  have hcp : contP (name ++ [58] ++ tailW cur) = false := by
    cases name with
    | nil => exact absurd rfl hn0
    | cons c t => exact (name_bytes c (hnb c (by simp))).2.2.2
  have htk : (name ++ [58] ++ tailW cur).take name.length = name := by rw [List.append_assoc]; simp
  have hdr : (name ++ [58] ++ tailW cur).drop (name.length + 1) = tailW cur := by
    have : name.length + 1 = (name ++ [58]).length := by simp
    rw [this, List.drop_left]
  unfold lineE
  rw [hcp, if_neg (by simp), hcol, if_neg (by simp), htk, hn, if_neg (by simp), if_neg (by omega)]
  unfold bodyE
  rw [hdr, wordsL_tail cur (fun x hx => (hc x hx).1), longAt_none cur _ _ (fun x hx => (hc x hx).2.1), lastBody_snoc]
  dsimp only
  have hw0 : wordsL ([] : List UInt8) = [] := rfl
  rw [hw0, List.nil_append, if_neg (by omega), setBody_snoc]
theorem first_lines (text : List UInt8) (name : List UInt8) (hn : validNameL name = true) : ∀ (ws cur : List (List UInt8)) (pos : Nat) (fs : List Fld) (rest : List UInt8) (e : Bool), (e = true → cur = []) → fs.length < 64 → (∀ x ∈ cur, goodW x) → (∀ x ∈ ws, goodW x) →
    (name ++ [58] ++ tailW cur).length ≤ 998 → (joinW (cur ++ ws)).length ≤ 8192 → text.drop pos = foldW ws [] (name ++ [58] ++ tailW cur) e ++ rest →
    Steps text pos fs (pos + (foldW ws [] (name ++ [58] ++ tailW cur) e).length) (fs ++ [⟨name, joinW (cur ++ ws)⟩]) := by
  obtain ⟨hn40, _, _⟩ := valid_parts hn
  intro ws
  induction ws with
  | nil =>
    intro cur pos fs rest e he hf hc _ hl h8 ht
    have e1 : foldW [] [] (name ++ [58] ++ tailW cur) e = (name ++ [58] ++ tailW cur) ++ [10] := by simp [foldW]
    rw [e1] at ht ⊢
    rw [List.append_nil] at h8 ⊢
    have := first_flush text cur pos fs name rest hn hf hc hl h8 (by rw [ht]; simp)
    rw [List.length_append, List.length_singleton]
    exact this
  | cons x ws ih =>
    intro cur pos fs rest e he hf hc hws hl h8 ht
    have hx := hws x (by simp)
    have hws' : ∀ y ∈ ws, goodW y := fun y hy => hws y (by simp [hy])
    have hxl := hx.2.1
    by_cases hfit : e = false ∧ 78 < (name ++ [58] ++ tailW cur).length + 1 + x.length
    · have e0 : foldW (x :: ws) [] (name ++ [58] ++ tailW cur) e = ((name ++ [58] ++ tailW cur) ++ [10]) ++ foldW ws [] (32 :: x) false := by
        conv => lhs; unfold foldW
        rw [if_pos hfit, foldW_out]; simp
      have e1 : tailW [x] = 32 :: x := by simp [tailW]
      rw [e0] at ht ⊢
      have h8' : (joinW cur).length ≤ 8192 := by
        have := joinW_app_len cur (x :: ws); omega
      have s1 := first_flush text cur pos fs name (foldW ws [] (32 :: x) false ++ rest) hn hf hc hl h8' (by rw [ht]; simp)
      generalize hL : name ++ [58] ++ tailW cur = L at *
      have hd : text.drop (pos + (L.length + 1)) = foldW ws [] (tailW [x]) false ++ rest := by
        rw [← List.drop_drop, ht, e1]
        have : L.length + 1 = (L ++ [10]).length := by simp
        rw [this, List.append_assoc, List.drop_left]
      have s2 := cont_lines text ws [x] cur (pos + (L.length + 1)) (fs ++ [⟨name, joinW cur⟩]) rest (by simp) (by simp) (lastBody_snoc _ _) (fun y hy => (hc y hy).1) (fun y hy => by simp at hy; subst hy; exact hx) hws' (by rw [e1]; simp; omega) (by simpa using h8) hd
      have s3 := s1.trans s2
      rw [setBody_snoc, e1] at s3
      have hj : cur ++ [x] ++ ws = cur ++ x :: ws := by simp
      rw [hj] at s3
      have hp : pos + (L.length + 1) + (foldW ws [] (32 :: x) false).length = pos + ((L ++ [10]) ++ foldW ws [] (32 :: x) false).length := by simp; omega
      rw [hp] at s3
      exact s3
    · have e1 : foldW (x :: ws) [] (name ++ [58] ++ tailW cur) e = foldW ws [] (name ++ [58] ++ tailW (cur ++ [x])) false := by
        conv => lhs; unfold foldW
        rw [if_neg hfit, tailW_snoc]; simp
      rw [e1] at ht ⊢
      have hj : cur ++ x :: ws = (cur ++ [x]) ++ ws := by simp
      rw [hj] at h8 ⊢
      refine ih (cur ++ [x]) pos fs rest false (by simp) hf (fun y hy => by rcases List.mem_append.1 hy with h | h; exact hc y h; simp at h; subst h; exact hx) hws' ?_ h8 ht
      rw [tailW_snoc]
      cases e with
      | true =>
        have := he rfl
        subst this
        simp [tailW]; omega
      | false =>
        have : ¬ 78 < (name ++ [58] ++ tailW cur).length + 1 + x.length := fun h => hfit ⟨rfl, h⟩
        simp only [List.length_append, List.length_cons] at this ⊢
        omega

/-! ### valid fields -/
theorem wordsGo_mem (l : List UInt8) : ∀ cur, ∀ x ∈ wordsGo l cur, ∀ c ∈ x, c ∈ cur ∨ c ∈ l := by
  induction l with
  | nil =>
    intro cur x hx c hc
    unfold wordsGo at hx
    split at hx
    · simp at hx
    · simp at hx; subst hx; exact Or.inl hc
  | cons d l ih =>
    intro cur x hx c hc
    unfold wordsGo at hx
    by_cases hb : isBlank d = true
    · rw [if_pos hb] at hx
      by_cases h0 : cur = []
      · rw [if_pos h0] at hx
        rcases ih [] x hx c hc with h | h
        · simp at h
        · exact Or.inr (by simp [h])
      · rw [if_neg h0] at hx
        rcases List.mem_cons.1 hx with rfl | hx
        · exact Or.inl hc
        · rcases ih [] x hx c hc with h | h
          · simp at h
          · exact Or.inr (by simp [h])
    · rw [if_neg hb] at hx
      rcases ih (cur ++ [d]) x hx c hc with h | h
      · rcases List.mem_append.1 h with h | h
        · exact Or.inl h
        · simp at h; subst h; exact Or.inr (by simp)
      · exact Or.inr (by simp [h])
theorem spanL_mem (p : UInt8 → Bool) : ∀ l : List UInt8, spanL p l = l.length → ∀ c ∈ l, p c = true
  | [], _, c, h => by simp at h
  | d :: l, h, c, hc => by
    unfold spanL at h
    by_cases hd : p d = true
    · rw [if_pos hd] at h
      rcases List.mem_cons.1 hc with rfl | hc
      · exact hd
      · exact spanL_mem p l (by simpa using h) c hc
    · rw [if_neg hd] at h; simp at h
/-- What a valid field is. -/
structure GoodF (f : Fld) : Prop where
  name : validNameL f.name = true
  words : ∀ x ∈ wordsL f.body, goodW x
  can : joinW (wordsL f.body) = f.body
  len : f.body.length ≤ 8192
theorem ok_of (c : UInt8) (h1 : okPrint c = true) (h2 : isBlank c = false) : okByte c = true ∧ notNl c = true := by
  have key : ∀ c : UInt8, okPrint c = true → isBlank c = false → okByte c = true ∧ notNl c = true := by
    apply all_u8
    decide +kernel
  exact key c h1 h2
theorem good_of_check {f : Fld} (h : checkL f.name f.body = 0) : GoodF f := by
  unfold checkL at h
  split at h
  · rename_i h1
    split at h
    · cases h
    · rename_i h2
      split at h
      · rename_i h3
        split at h
        · cases h
        · rename_i h4
          split at h
          · cases h
          · rename_i h5
            have hsp : spanL okPrint f.body = f.body.length := by
              unfold printableZ at h2
              split at h2
              · assumption
              · exact absurd (by omega) h2
            refine ⟨h1, fun x hx => ?_, h3, by omega⟩
            have hok := wordsL_ok f.body x hx
            refine ⟨hok, ?_, fun c hc => ok_of c (spanL_mem okPrint f.body hsp c ?_) (hok.2 c hc)⟩
            · unfold longAny at h5
              rw [List.any_eq_true] at h5
              rcases Nat.lt_or_ge 900 x.length with h | h
              · exact absurd ⟨x, hx, by simpa using h⟩ h5
              · exact h
            · rcases wordsGo_mem f.body [] x hx c hc with h | h
              · simp at h
              · exact h
      · cases h
  · cases h
def printL (fs : List Fld) : List UInt8 := fs.flatMap fun f => foldL f.name f.body
theorem print_steps (text : List UInt8) : ∀ (fs : List Fld) (pos : Nat) (gs : List Fld) (rest : List UInt8), (∀ f ∈ fs, GoodF f) → gs.length + fs.length ≤ 64 → text.drop pos = printL fs ++ rest → Steps text pos gs (pos + (printL fs).length) (gs ++ fs)
  | [], pos, gs, rest, _, _, _ => by simpa [printL] using Steps.refl text pos gs
  | f :: fs, pos, gs, rest, hg, hl, ht => by
    have hf := hg f (by simp)
    have e : printL (f :: fs) = foldL f.name f.body ++ printL fs := by simp [printL]
    rw [e] at ht ⊢
    obtain ⟨hn40, _, _⟩ := valid_parts hf.name
    have hfold : foldL f.name f.body = foldW (wordsL f.body) [] (f.name ++ [58] ++ tailW []) true := by unfold foldL; simp [tailW]
    have h8 : (joinW ([] ++ wordsL f.body)).length ≤ 8192 := by rw [List.nil_append, hf.can]; exact hf.len
    have s1 := first_lines text f.name hf.name (wordsL f.body) [] pos gs (printL fs ++ rest) true (fun _ => rfl) (by simp at hl; omega) (by simp) hf.words (by simp [tailW]; omega) h8 (by rw [ht, hfold]; simp)
    rw [List.nil_append, hf.can, ← hfold] at s1
    have hd : text.drop (pos + (foldL f.name f.body).length) = printL fs ++ rest := by
      rw [← List.drop_drop, ht, List.append_assoc, List.drop_left]
    have s2 := print_steps text fs (pos + (foldL f.name f.body).length) (gs ++ [f]) rest (fun x hx => hg x (by simp [hx])) (by simp at hl ⊢; omega) hd
    have s3 := s1.trans s2
    have hp : pos + (foldL f.name f.body).length + (printL fs).length = pos + (foldL f.name f.body ++ printL fs).length := by simp; omega
    rw [hp] at s3
    simpa using s3
theorem parse_print (fs : List Fld) (hg : ∀ f ∈ fs, GoodF f) (hl : fs.length ≤ 64) (h6 : (printL fs).length ≤ 65536) : parseP (printL fs) = (fs, 0, 0) := by
  have := print_steps (printL fs) fs 0 [] [] hg (by simpa using hl) (by simp)
  rw [Nat.zero_add, List.nil_append] at this
  exact this.parse h6
end Go.Proofs.YtfeciafdioepiaaGreatDoor

/- Plain: Print of the program. -/
namespace Go.Proofs.YtfeciafdioepiaaGreatDoor
open Go.RowKit Go.Proofs Go.Proofs.YtfeciafdioepiaaGreatDoorW.PrintWords Go.Proofs.YtfeciafdioepiaaGreatDoor.PA

def printGo : List Fld → List UInt8 → List UInt8 × Int
  | [], out => if 65536 < out.length then ([], 5) else (out, 0)
  | f :: fs, out => if checkL f.name f.body = 0 then printGo fs (out ++ foldL f.name f.body) else ([], checkL f.name f.body)
def printP (fs : List Fld) : List UInt8 × Int := if 64 < fs.length then ([], 9) else printGo fs []
theorem foldW_len : ∀ (ws : List (List UInt8)) (out line : List UInt8) (e : Bool), (foldW ws out line e).length ≤ out.length + line.length + costW ws + 1
  | [], out, line, e => by simp [foldW]; omega
  | x :: ws, out, line, e => by
    unfold foldW
    rw [costW_cons]
    split
    · have := foldW_len ws (out ++ (line ++ [10])) (32 :: x) false
      simp only [List.length_append, List.length_cons, List.length_nil] at this ⊢; omega
    · have := foldW_len ws out (line ++ 32 :: x) false
      simp only [List.length_append, List.length_cons] at this ⊢; omega
theorem foldL_len (n b : List UInt8) : (foldL n b).length ≤ n.length + costW (wordsL b) + 2 := by
  have := foldW_len (wordsL b) [] (n ++ [58]) true
  unfold foldL; simp at this ⊢; omega
theorem foldL_small (n b : List UInt8) (hn : n.length ≤ 1100000) (hb : b.length ≤ 1100000) : (foldL n b).length ≤ 4000000 := by
  have h1 := foldL_len n b
  have h2 := wordsL_len b
  have h3 := wordsL_sum b
  unfold costW at h1; omega
theorem printGoF : ∀ (fs : List Fld) (out : List UInt8), (∀ f ∈ fs, f.name.length ≤ 1100000 ∧ f.body.length ≤ 1100000) → Ev (fun k => GV.Print.go k (fs.map toS) out) (mkS (printGo fs out).1, (printGo fs out).2)
  | [], out, _ => by
    show Ev (fun k => if 65536 < out.length then some ((⟨#[]⟩ : ByteArray), (5 : Int)) else some (mkS out, 0)) (mkS (if 65536 < out.length then (([] : List UInt8), (5 : Int)) else (out, 0)).1, (if 65536 < out.length then (([] : List UInt8), (5 : Int)) else (out, 0)).2)
    by_cases h : 65536 < out.length
    · refine Ev.ite_pos h (Ev.const ?_); rw [if_pos h]; rfl
    · refine Ev.ite_neg h (Ev.const ?_); rw [if_neg h]
  | f :: fs, out, hf => by
    obtain ⟨hn, hb⟩ := hf f (by simp)
    have hF := foldF f.name f.body hn hb
    have hsm := foldL_small f.name f.body hn hb
    show Ev (fun k => (GV.Fold.f k (mkS f.name) (mkS f.body)).bind fun p => if p.2 = 0 then (if p.1.size ≤ 4000000 then GV.Print.go k (fs.map toS) (out ++ p.1.data.toList) else none) else some ((⟨#[]⟩ : ByteArray), p.2)) _
    refine Ev.bind hF ?_
    by_cases h : checkL f.name f.body = 0
    · rw [if_pos h]
      have e : printGo (f :: fs) out = printGo fs (out ++ foldL f.name f.body) := by
        conv => lhs; unfold printGo
        rw [if_pos h]
      rw [e]
      refine Ev.ite_pos rfl (Ev.ite_pos (by rw [mkS_size]; exact hsm) ?_)
      rw [mkS_toList]
      exact printGoF fs _ (fun g hg => hf g (by simp [hg]))
    · rw [if_neg h]
      have e : printGo (f :: fs) out = ([], checkL f.name f.body) := by
        conv => lhs; unfold printGo
        rw [if_neg h]
      rw [e]
      exact Ev.ite_neg h (Ev.const rfl)
theorem printF (fs : List Fld) (hf : ∀ f ∈ fs, f.name.length ≤ 1100000 ∧ f.body.length ≤ 1100000) : Ev (fun k => GV.Print.f k (fs.map toS)) (mkS (printP fs).1, (printP fs).2) := by
  unfold GV.Print.f printP
  rw [List.length_map]
  by_cases h : 64 < fs.length
  · rw [if_pos h]; exact Ev.ite_pos h (Ev.const rfl)
  · rw [if_neg h]; exact Ev.ite_neg h (printGoF fs [] hf)
theorem printGo_ok : ∀ (fs : List Fld) (out : List UInt8), (printGo fs out).2 = 0 → (∀ f ∈ fs, checkL f.name f.body = 0) ∧ (printGo fs out).1 = out ++ printL fs ∧ (out ++ printL fs).length ≤ 65536
  | [], out, h => by
    unfold printGo at h ⊢
    by_cases h6 : 65536 < out.length
    · rw [if_pos h6] at h; exact absurd h (by decide)
    · rw [if_neg h6]; simp [printL]; omega
  | f :: fs, out, h => by
    unfold printGo at h ⊢
    by_cases hc : checkL f.name f.body = 0
    · rw [if_pos hc] at h ⊢
      obtain ⟨h1, h2, h3⟩ := printGo_ok fs _ h
      have e : printL (f :: fs) = foldL f.name f.body ++ printL fs := by simp [printL]
      rw [e, ← List.append_assoc]
      exact ⟨fun g hg => by rcases List.mem_cons.1 hg with rfl | hg; exact hc; exact h1 g hg, h2, h3⟩
    · rw [if_neg hc] at h; exact absurd h hc
theorem printP_ok (fs : List Fld) (h : (printP fs).2 = 0) : parseP (printP fs).1 = (fs, 0, 0) := by
  unfold printP at h ⊢
  by_cases h6 : 64 < fs.length
  · rw [if_pos h6] at h; exact absurd h (by decide)
  · rw [if_neg h6] at h ⊢
    obtain ⟨h1, h2, h3⟩ := printGo_ok fs [] h
    rw [h2, List.nil_append]
    exact parse_print fs (fun f hf => good_of_check (h1 f hf)) (by omega) (by simpa using h3)
theorem printP_small (fs : List Fld) : (printP fs).1.length ≤ 65536 := by
  unfold printP
  split
  · simp
  · have key : ∀ (fs : List Fld) (out : List UInt8), (printGo fs out).1.length ≤ 65536 := by
      intro fs
      induction fs with
      | nil => intro out; unfold printGo; split <;> simp; omega
      | cons f fs ih => intro out; unfold printGo; split; exact ih _; simp
    exact key fs []
end Go.Proofs.YtfeciafdioepiaaGreatDoor
set_option linter.unusedVariables false
set_option linter.unusedSimpArgs false
/- Plain: what a law cuts off. -/
namespace Go.Proofs.YtfeciafdioepiaaGreatDoor
open Go.RowKit Go.Proofs Go.Proofs.YtfeciafdioepiaaGreatDoorW.PrintWords Go.Proofs.YtfeciafdioepiaaGreatDoor.PA

end Go.Proofs.YtfeciafdioepiaaGreatDoor

/- Plain: Check and Fold of the reference. -/
namespace Go.Proofs.YtfeciafdioepiaaGreatDoor
open Go.RowKit Go.Proofs Go.Proofs.YtfeciafdioepiaaGreatDoorW.PrintWords Go.Proofs.YtfeciafdioepiaaGreatDoor.PA

theorem refCheck_loop (ws : List (List UInt8)) (hl : ws.length ≤ 1100000) : ∀ d i : Nat, ws.length - i = d → i ≤ ws.length →
    Ev (fun k => bulletinref09_Check.l0 k (ws.map mkS) (i : Int)) (if (ws.drop i).any (fun x => decide (900 < x.length)) = true then 5 else 0) := by
  intro d
  induction d with
  | zero =>
    intro i hd hi
    refine Ev.next ?_
    simp only [bulletinref09_Check.l0, List.length_map]
    refine Ev.ite_neg (by omega) (Ev.const ?_)
    rw [List.drop_eq_nil_of_le (by omega)]; rfl
  | succ d ih =>
    intro i hd hi
    have hlt : i < ws.length := by omega
    have hw := wrap_nat i (by omega)
    refine Ev.next ?_
    simp only [bulletinref09_Check.l0, List.length_map]
    refine Ev.ite_pos (by omega) (Ev.ite_pos (by omega) ?_)
    rw [rdOf_map ws i hlt, hw, mkS_size, List.drop_eq_getElem_cons hlt, List.any_cons]
    by_cases h : 900 < ws[i].length
    · refine Ev.ite_pos (by omega) (Ev.const ?_)
      simp [h]
    · refine Ev.ite_neg (by omega) ((ih (i + 1) (by omega) (by omega)).is ?_)
      simp [h]
theorem refCheckF (n b : List UInt8) (hn : n.length ≤ 1100000) (hb : b.length ≤ 1100000) : Ev (fun k => bulletinref09_Check.f k (mkS n) (mkS b)) (checkL n b) := by
  unfold bulletinref09_Check.f checkL
  refine Ev.bind ⟨n.length + 2, fun k hk => refValidF n hn k hk⟩ ?_
  by_cases h1 : validNameL n = true
  · refine Ev.rpos h1 ?_
    refine Ev.ite_pos h1 (Ev.bind (refPrintableF b hb) ?_)
    by_cases h2 : printableZ b ≥ 0
    · refine Ev.rpos h2 ?_; exact Ev.ite_pos h2 (Ev.const rfl)
    · refine Ev.rneg h2 ?_
      refine Ev.ite_neg h2 (Ev.bind (refSqueezeF b hb) ?_)
      rw [toList_mk, toList_mk]
      by_cases h3 : joinW (wordsL b) = b
      · refine Ev.rpos h3 ?_
        refine Ev.ite_pos h3 ?_
        rw [mkS_size]
        by_cases h4 : 8192 < b.length
        · refine Ev.rpos h4 ?_; exact Ev.ite_pos (by omega) (Ev.const rfl)
        · refine Ev.rneg h4 ?_
          refine Ev.ite_neg (by omega) (Ev.bind (refWordsF b hb) ?_)
          have h5 := wordsL_len b
          exact refCheck_loop (wordsL b) (by omega) _ 0 rfl (by omega)
      · refine Ev.rneg h3 ?_; exact Ev.ite_neg h3 (Ev.const rfl)
  · refine Ev.rneg h1 ?_; exact Ev.ite_neg h1 (Ev.const rfl)

theorem refFold_loop (ws : List (List UInt8)) (hl : ws.length ≤ 1100000) (hs : sumL ws ≤ 1100000) : ∀ d i : Nat, ws.length - i = d → i ≤ ws.length → ∀ out line : List UInt8, out.length + line.length ≤ 2000000 + 2000000 * i →
    Ev (fun k => bulletinref09_Fold.l0 k (mkS out) (mkS line) (ws.map mkS) (i : Int)) (mkS (foldW (ws.drop i) out line (decide (i = 0)))) := by
  intro d
  induction d with
  | zero =>
    intro i hd hi out line hol
    refine Ev.next ?_
    simp only [bulletinref09_Fold.l0, List.length_map]
    have h6 : (mkS out).size + (mkS line).size ≤ 9223372036854775807 := by rw [mkS_size, mkS_size]; omega
    have h7 : (mkS (out ++ line)).size + 1 ≤ 9223372036854775807 := by rw [mkS_size, List.length_append]; omega
    refine Ev.ite_neg (by omega) (Ev.ite_pos h6 ?_)
    rw [mkS_one, mkS_append, mkS_append]
    refine Ev.ite_pos h7 (Ev.const ?_)
    rw [List.drop_eq_nil_of_le (by omega)]
    simp [foldW]
  | succ d ih =>
    intro i hd hi out line hol
    have hlt : i < ws.length := by omega
    have hw := wrap_nat i (by omega)
    have h3 := sumL_mem ws i hlt
    have h5 : (mkS ws[i]).size = ws[i].length := mkS_size _
    have h6 : (mkS line).size = line.length := mkS_size _
    have h7 : (mkS (line ++ [32])).size = line.length + 1 := by rw [mkS_size, List.length_append, List.length_singleton]
    refine Ev.next ?_
    simp only [bulletinref09_Fold.l0, List.length_map]
    refine Ev.ite_pos (by omega) ?_
    rw [rdOf_map ws i hlt, hw, List.drop_eq_getElem_cons hlt]
    rw [mkS_one, mkS_append]
    by_cases h0 : i = 0
    · refine Ev.ite_pos (by omega) (Ev.ite_pos (by omega) (Ev.ite_pos (by omega) (Ev.ite_pos (by omega) ?_)))
      rw [mkS_append]
      refine (ih (i + 1) (by omega) (by omega) out (line ++ [32] ++ ws[i]) (by simp; omega)).is ?_
      conv => rhs; unfold foldW
      rw [if_neg (by simp [h0])]
      simp
    · refine Ev.ite_neg (by omega) (Ev.ite_pos (by omega) ?_)
      have hwr : wrap64 (wrap64 (((mkS line).size : Int) + 1) + ((mkS ws[i]).size : Int)) = ((line.length + 1 + ws[i].length : Nat) : Int) := by rw [h5, h6, wrap_nat _ (by omega), wrap_add _ _ (by omega)]
      rw [hwr]
      clear hwr hw
      by_cases hfit : line.length + 1 + ws[i].length ≤ 78
      · have hf' : ((line.length + 1 + ws[i].length : Nat) : Int) ≤ 78 := by omega
        have hg' : (mkS line).size + 1 ≤ 9223372036854775807 := by omega
        have hh' : (mkS (line ++ [32])).size + (mkS ws[i]).size ≤ 9223372036854775807 := by omega
        refine Ev.ite_pos hf' ?_
        refine Ev.ite_pos hg' ?_
        refine Ev.ite_pos hh' ?_
        rw [mkS_append]
        refine (ih (i + 1) (by omega) (by omega) out (line ++ [32] ++ ws[i]) (by simp; omega)).is ?_
        conv => rhs; unfold foldW
        rw [if_neg (by simp [h0]; omega)]
        simp
      · have h8 : (mkS out).size + (mkS line).size ≤ 9223372036854775807 := by rw [mkS_size, mkS_size]; omega
        have h9 : (mkS (out ++ line)).size + 1 ≤ 9223372036854775807 := by rw [mkS_size, List.length_append]; omega
        refine Ev.ite_neg (by omega) (Ev.ite_pos h8 ?_)
        rw [mkS_append, mkS_one, mkS_append, mkS_append]
        refine Ev.ite_pos h9 (Ev.ite_pos (by omega) ?_)
        refine (ih (i + 1) (by omega) (by omega) (out ++ line ++ [10]) ([32] ++ ws[i]) (by simp; omega)).is ?_
        conv => rhs; unfold foldW
        rw [if_pos ⟨by simp [h0], by omega⟩]
        simp
theorem refFoldF (n b : List UInt8) (hn : n.length ≤ 1100000) (hb : b.length ≤ 1100000) : Ev (fun k => bulletinref09_Fold.f k (mkS n) (mkS b)) (mkS (foldL n b)) := by
  unfold bulletinref09_Fold.f
  have h5 := wordsL_len b
  have h6 := wordsL_sum b
  refine Ev.ite_pos (by rw [mkS_size]; omega) (Ev.bind (refWordsF b hb) ?_)
  rw [mkS_one, mkS_append]
  exact refFold_loop (wordsL b) (by omega) (by omega) _ 0 rfl (by omega) [] (n ++ [58]) (by simp; omega)

end Go.Proofs.YtfeciafdioepiaaGreatDoor
set_option linter.unusedVariables false
set_option linter.unusedSimpArgs false
namespace Go.Proofs.YtfeciafdioepiaaGreatDoor
open Go.RowKit Go.Proofs Go.Proofs.YtfeciafdioepiaaGreatDoorW.PrintWords Go.Proofs.YtfeciafdioepiaaGreatDoor.PA

/-! ### what was parsed is valid -/
theorem refPrint_loop (fs : List Fld) (hf : ∀ f ∈ fs, f.name.length ≤ 1100000 ∧ f.body.length ≤ 1100000) (hl : fs.length ≤ 64) : ∀ d i : Nat, fs.length - i = d → i ≤ fs.length → ∀ out : List UInt8, out.length ≤ 4000000 * i →
    Ev (fun k => bulletinref09_Print.l0 k (fs.map toR) (mkS out) (i : Int)) (mkS (printGo (fs.drop i) out).1, (printGo (fs.drop i) out).2) := by
  intro d
  induction d with
  | zero =>
    intro i hd hi out ho
    refine Ev.next ?_
    simp only [bulletinref09_Print.l0, List.length_map]
    refine Ev.ite_neg (by omega) ?_
    rw [List.drop_eq_nil_of_le (by omega), mkS_size]
    unfold printGo
    by_cases h : 65536 < out.length
    · refine Ev.ite_pos (by omega) (Ev.const ?_); rw [if_pos h]; rfl
    · refine Ev.ite_neg (by omega) (Ev.const ?_); rw [if_neg h]
  | succ d ih =>
    intro i hd hi out ho
    have hlt : i < fs.length := by omega
    obtain ⟨hn, hb⟩ := hf fs[i] (List.getElem_mem hlt)
    have hsm := foldL_small fs[i].name fs[i].body hn hb
    refine Ev.next ?_
    simp only [bulletinref09_Print.l0, List.length_map]
    rw [rd25 _ i (by rw [List.length_map]; exact hlt), List.getElem_map, List.drop_eq_getElem_cons hlt, wrap_nat i (by omega)]
    refine Ev.ite_pos (by omega) (Ev.ite_pos (by omega) (Ev.bind (refCheckF _ _ hn hb) ?_))
    by_cases h : checkL fs[i].name fs[i].body = 0
    · have e : printGo (fs[i] :: fs.drop (i + 1)) out = printGo (fs.drop (i + 1)) (out ++ foldL fs[i].name fs[i].body) := by
        conv => lhs; unfold printGo
        rw [if_pos h]
      rw [e]
      have h6 : (mkS out).size + (mkS (foldL fs[i].name fs[i].body)).size ≤ 9223372036854775807 := by rw [mkS_size, mkS_size]; omega
      refine Ev.ite_pos h (Ev.bind (refFoldF _ _ hn hb) (Ev.ite_pos h6 ?_))
      rw [mkS_append]
      exact ih (i + 1) (by omega) (by omega) _ (by rw [List.length_append]; omega)
    · have e : printGo (fs[i] :: fs.drop (i + 1)) out = ([], checkL fs[i].name fs[i].body) := by
        conv => lhs; unfold printGo
        rw [if_neg h]
      rw [e]
      exact Ev.ite_neg h (Ev.const rfl)
theorem refPrintF (fs : List Fld) (hf : ∀ f ∈ fs, f.name.length ≤ 1100000 ∧ f.body.length ≤ 1100000) : Ev (fun k => bulletinref09_Print.f k (fs.map toR)) (mkS (printP fs).1, (printP fs).2) := by
  unfold bulletinref09_Print.f printP
  rw [List.length_map]
  by_cases h : 64 < fs.length
  · rw [if_pos h]; exact Ev.ite_pos (by omega) (Ev.const rfl)
  · rw [if_neg h]
    exact Ev.ite_neg (by omega) (refPrint_loop fs hf (by omega) _ 0 rfl (by omega) [] (by simp))

end Go.Proofs.YtfeciafdioepiaaGreatDoor
set_option linter.unusedVariables false
set_option linter.unusedSimpArgs false
namespace Go.Proofs.YtfeciafdioepiaaGreatDoor
open Go.RowKit Go.Proofs Go.Proofs.YtfeciafdioepiaaGreatDoorW.PrintWords Go.Proofs.YtfeciafdioepiaaGreatDoor.PA

theorem endL (l : List UInt8) (hl : l.length ≤ 1000000) : ∀ d k i : Nat, l.length - i = d → d < k → i ≤ l.length →
    bulletinref15_end.l0 k (mkS l) (i : Int) = some ((i + lineN (l.drop i) : Nat) : Int) := by
  intro d
  induction d with
  | zero =>
    intro k i hd hk hi
    obtain ⟨k, rfl⟩ : ∃ m, k = m + 1 := ⟨k - 1, by omega⟩
    have h1 : l.drop i = [] := List.drop_eq_nil_of_le (by omega)
    unfold bulletinref15_end.l0
    rw [if_neg (by rw [mkS_size]; omega), h1]
    simp [lineN, spanL]
  | succ d ih =>
    intro k i hd hk hi
    obtain ⟨k, rfl⟩ : ∃ m, k = m + 1 := ⟨k - 1, by omega⟩
    have hlt : i < l.length := by omega
    have h1 : l.drop i = l[i] :: l.drop (i + 1) := List.drop_eq_getElem_cons hlt
    unfold bulletinref15_end.l0
    rw [if_pos (by rw [mkS_size]; omega), if_pos (by omega), bt_mk l i hlt]
    by_cases hc : l[i] = 10
    · rw [if_pos (by rw [hc]; rfl), h1]
      simp [lineN, spanL, notNl, hc]
    · rw [if_neg (fun h => hc ((toNat_int l[i] 10 (by omega)).1 h)), wrap64_small (by omega) (by omega)]
      have := ih k (i + 1) (by omega) (by omega) (by omega)
      rw [show ((i : Int) + 1) = ((i + 1 : Nat) : Int) by omega, this, h1]
      have h2 : lineN (l[i] :: l.drop (i + 1)) = lineN (l.drop (i + 1)) + 1 := by
        have hn : notNl l[i] = true := by simp [notNl, hc]
        simp [lineN, spanL, hn]
      rw [h2]
      congr 2
      omega
theorem endF (l : List UInt8) (hl : l.length ≤ 1000000) (k i : Nat) (hk : l.length - i < k) (hi : i ≤ l.length) : bulletinref15_end.f k (mkS l) (i : Int) = some ((i + lineN (l.drop i) : Nat) : Int) :=
  endL l hl _ k i rfl hk hi
end Go.Proofs.YtfeciafdioepiaaGreatDoor
set_option linter.unusedVariables false
set_option linter.unusedSimpArgs false
namespace Go.Proofs.YtfeciafdioepiaaGreatDoor
open Go.RowKit Go.Proofs Go.Proofs.YtfeciafdioepiaaGreatDoorW.PrintWords Go.Proofs.YtfeciafdioepiaaGreatDoorW.PrintMore Go.Proofs.YtfeciafdioepiaaGreatDoor.PA

theorem Ev.of_mono {α : Type} {f : Nat → Option α} (hm : ∀ k, LeO (f k) (f (k + 1))) {K : Nat} {r : α} (h : f K = some r) : Ev f r := by
  refine ⟨K, fun k hk => ?_⟩
  obtain ⟨m, rfl⟩ : ∃ m, k = K + m := ⟨k - K, by omega⟩
  clear hk
  induction m with
  | zero => exact h
  | succ m ih => exact hm _ _ ih
theorem begins_one (c : UInt8) : ∃ v : Int, Ev (fun k => bulletinref03_Begins.f k (mkS [c])) (decide (sizeU c ≠ 0), (sizeU c : Int), v) := by
  have h : (bulletinref03_Begins.f 8 (mkS [c])).map (fun x => (x.1, x.2.1)) = some (decide (sizeU c ≠ 0), (sizeU c : Int)) := by
    refine all_u8 (P := fun c => (bulletinref03_Begins.f 8 (mkS [c])).map (fun x => (x.1, x.2.1)) = some (decide (sizeU c ≠ 0), (sizeU c : Int))) ?_ c
    decide +kernel
  cases hb : bulletinref03_Begins.f 8 (mkS [c]) with
  | none => rw [hb] at h; cases h
  | some x =>
    obtain ⟨b, n, v⟩ := x
    rw [hb] at h
    injection h with h
    injection h with h1 h2
    subst h1 h2
    generalize mkS [c] = s at *
    exact ⟨v, Ev.of_mono (f := fun k => bulletinref03_Begins.f k s) (fun k => bulletinref03_Begins.mono _ _) hb⟩
theorem lead_fix (c : UInt8) : sizeU c ≠ 0 → bulletinref03_lead.f 4 (c.toNat : Int) = some ((sizeU c : Int), ((c.toNat % modU (sizeU c) : Nat) : Int)) := by
  have key : ∀ c : UInt8, sizeU c ≠ 0 → bulletinref03_lead.f 4 (c.toNat : Int) = some ((sizeU c : Int), ((c.toNat % modU (sizeU c) : Nat) : Int)) := by
    apply all_u8
    decide +kernel
  exact key c
theorem lead_one (c : UInt8) (h : sizeU c ≠ 0) : Ev (fun k => bulletinref03_lead.f k (c.toNat : Int)) ((sizeU c : Int), ((c.toNat % modU (sizeU c) : Nat) : Int)) := by
  have hf := lead_fix c h
  generalize (c.toNat % modU (sizeU c) : Nat) = m at *
  generalize (sizeU c : Int) = s at *
  generalize (c.toNat : Int) = x at *
  exact Ev.of_mono (f := fun k => bulletinref03_lead.f k x) (fun k => bulletinref03_lead.mono _ _) hf
theorem least_n (n : Nat) (h1 : 1 ≤ n) (h4 : n ≤ 4) : bulletinref03_least.f (n : Int) = some (minU n : Int) := by
  have : n = 1 ∨ n = 2 ∨ n = 3 ∨ n = 4 := by omega
  rcases this with rfl | rfl | rfl | rfl <;> rfl
theorem most_n (n : Nat) (h1 : 1 ≤ n) (h4 : n ≤ 4) : bulletinref03_most.f (n : Int) = some (maxU n : Int) := by
  have : n = 1 ∨ n = 2 ∨ n = 3 ∨ n = 4 := by omega
  rcases this with rfl | rfl | rfl | rfl <;> rfl
theorem modU_le (n : Nat) : modU n ≤ 128 ∧ 0 < modU n := by
  unfold modU; split <;> omega
theorem min_le_max (n : Nat) : minU n ≤ maxU n ∧ maxU n ≤ 1114111 := by
  unfold minU maxU; split <;> omega

theorem l1_some (n : Nat) (h1 : 1 ≤ n) (h4 : n ≤ 4) (v : Int) : ∀ d i : Nat, n - i = d → ∀ lo hi : Int, ∃ R, Ev (fun k => bulletinref03_Begins.l1 k (n : Int) v lo hi (i : Int)) R := by
  intro d
  induction d with
  | zero =>
    intro i hd lo hi
    have key : ∀ R, Ev (fun _ : Nat => if mx lo (minU n : Int) ≥ 55296 then (if mn hi (maxU n : Int) ≤ 57343 then (some (false, 0, 0)) else (if mx lo (minU n : Int) > mn hi (maxU n : Int) then (some (false, 0, 0)) else (some (true, (n : Int), v)))) else (if mx lo (minU n : Int) > mn hi (maxU n : Int) then (some (false, 0, 0)) else (some (true, (n : Int), v)))) R → ∃ R, Ev (fun k => bulletinref03_Begins.l1 k (n : Int) v lo hi (i : Int)) R := by
      intro R hR
      refine ⟨R, Ev.next ?_⟩
      simp only [bulletinref03_Begins.l1]
      refine Ev.ite_neg (by omega) ?_
      rw [least_n n h1 h4, most_n n h1 h4]
      exact hR
    by_cases h5 : mx lo (minU n : Int) ≥ 55296
    · by_cases h6 : mn hi (maxU n : Int) ≤ 57343
      · exact key _ (Ev.ite_pos h5 (Ev.ite_pos h6 (Ev.const rfl)))
      · by_cases h7 : mx lo (minU n : Int) > mn hi (maxU n : Int)
        · exact key _ (Ev.ite_pos h5 (Ev.ite_neg h6 (Ev.ite_pos h7 (Ev.const rfl))))
        · exact key _ (Ev.ite_pos h5 (Ev.ite_neg h6 (Ev.ite_neg h7 (Ev.const rfl))))
    · by_cases h7 : mx lo (minU n : Int) > mn hi (maxU n : Int)
      · exact key _ (Ev.ite_neg h5 (Ev.ite_pos h7 (Ev.const rfl)))
      · exact key _ (Ev.ite_neg h5 (Ev.ite_neg h7 (Ev.const rfl)))
  | succ d ih =>
    intro i hd lo hi
    obtain ⟨R, h⟩ := ih (i + 1) (by omega) (wrap64 (64 * lo)) (wrap64 ((wrap64 (64 * hi)) + 63))
    refine ⟨R, Ev.next ?_⟩
    simp only [bulletinref03_Begins.l1]
    refine Ev.ite_pos (by omega) ?_
    rw [wrap_nat i (by omega)]
    exact h
theorem l1_full (n : Nat) (h1 : 1 ≤ n) (h4 : n ≤ 4) (v : Nat) : Ev (fun k => bulletinref03_Begins.l1 k (n : Int) (v : Int) (v : Int) (v : Int) (n : Int)) (if okVal n v then (true, (n : Int), (v : Int)) else (false, 0, 0)) := by
  refine Ev.next ?_
  simp only [bulletinref03_Begins.l1]
  refine Ev.ite_neg (by omega) ?_
  rw [least_n n h1 h4, most_n n h1 h4]
  simp only [Option.bind_some]
  obtain ⟨hm, hM⟩ := min_le_max n
  have hok : okVal n v = true ↔ (minU n ≤ v ∧ v ≤ maxU n ∧ ¬ (55296 ≤ v ∧ v ≤ 57343)) := by
    unfold okVal
    simp only [Bool.and_eq_true, decide_eq_true_iff, Bool.not_eq_true', Bool.and_eq_false_iff, decide_eq_false_iff_not]
    omega
  generalize minU n = a at *
  generalize maxU n = b at *
  have e1 : mx (v : Int) (a : Int) = ((max v a : Nat) : Int) := by unfold mx; split <;> omega
  have e2 : mn (v : Int) (b : Int) = ((min v b : Nat) : Int) := by unfold mn; split <;> omega
  rw [e1, e2]
  by_cases h : okVal n v = true
  · rw [if_pos h]
    have h' := hok.1 h
    by_cases h5 : ((max v a : Nat) : Int) ≥ 55296
    · exact Ev.ite_pos h5 (Ev.ite_neg (by omega) (Ev.ite_neg (by omega) (Ev.const rfl)))
    · exact Ev.ite_neg h5 (Ev.ite_neg (by omega) (Ev.const rfl))
  · rw [if_neg h]
    have h' : ¬ (a ≤ v ∧ v ≤ b ∧ ¬ (55296 ≤ v ∧ v ≤ 57343)) := fun x => h (hok.2 x)
    by_cases h5 : ((max v a : Nat) : Int) ≥ 55296
    · refine Ev.ite_pos h5 ?_
      by_cases h6 : ((min v b : Nat) : Int) ≤ 57343
      · exact Ev.ite_pos h6 (Ev.const rfl)
      · exact Ev.ite_neg h6 (Ev.ite_pos (by omega) (Ev.const rfl))
    · exact Ev.ite_neg h5 (Ev.ite_pos (by omega) (Ev.const rfl))
theorem wrap64_mid {x : Int} (h0 : 0 ≤ x) (h1 : x ≤ 1000000000000) : wrap64 x = x := by unfold wrap64; omega
theorem wrap_digit (v c : Nat) (hv : v ≤ 33554432) (h1 : 128 ≤ c) (h2 : c ≤ 191) : wrap64 ((wrap64 ((wrap64 (64 * (v : Int))) + (wrap64 (c : Int)))) - 128) = ((v * 64 + c % 64 : Nat) : Int) := by
  rw [wrap64_mid (x := 64 * (v : Int)) (by omega) (by omega), wrap64_mid (x := (c : Int)) (by omega) (by omega), wrap64_mid (x := 64 * (v : Int) + (c : Int)) (by omega) (by omega), wrap64_mid (by omega) (by omega)]
  omega
theorem cont_int (b : UInt8) : isCont b = true ↔ (128 ≤ b.toNat ∧ b.toNat ≤ 191) := by
  unfold isCont
  have := b.toNat_lt
  rw [decide_eq_true_iff]; omega
/-- The rounds over the bytes that follow. -/
theorem l0_rounds (l : List UInt8) (hl : l.length ≤ 4) (n : Nat) : ∀ d i v : Nat, l.length - i = d → i ≤ l.length → (v + 1) * 64 ^ d ≤ 33554432 → ∀ R,
    ((l.drop i).all isCont = true → Ev (fun k => bulletinref03_Begins.l1 k (n : Int) (((l.drop i).foldl (fun v b => v * 64 + b.toNat % 64) v : Nat) : Int) (((l.drop i).foldl (fun v b => v * 64 + b.toNat % 64) v : Nat) : Int) (((l.drop i).foldl (fun v b => v * 64 + b.toNat % 64) v : Nat) : Int) (l.length : Int)) R) →
    Ev (fun k => bulletinref03_Begins.l0 k (mkS l) (n : Int) (v : Int) (i : Int)) (if (l.drop i).all isCont then R else (false, 0, 0)) := by
  intro d
  induction d with
  | zero =>
    intro i v hd hi hv R hR
    have h0 : l.drop i = [] := List.drop_eq_nil_of_le (by omega)
    rw [h0] at hR ⊢
    refine Ev.next ?_
    simp only [bulletinref03_Begins.l0, mkS_size]
    refine Ev.ite_neg (by omega) ?_
    exact hR rfl
  | succ d ih =>
    intro i v hd hi hv R hR
    have hlt : i < l.length := by omega
    have hdr : l.drop i = l[i] :: l.drop (i + 1) := List.drop_eq_getElem_cons hlt
    have hp : 64 ^ (d + 1) = 64 ^ d * 64 := Nat.pow_succ ..
    have hp0 : 0 < 64 ^ d := Nat.pow_pos (by omega)
    have hb := l[i].toNat_lt
    have hv1 : (v + 1) * 64 ≤ 33554432 := by
      refine Nat.le_trans ?_ hv
      rw [hp, ← Nat.mul_assoc]
      exact Nat.mul_le_mul_right 64 (Nat.le_mul_of_pos_right _ hp0)
    have hv2 : (v * 64 + l[i].toNat % 64 + 1) * 64 ^ d ≤ 33554432 := by
      refine Nat.le_trans ?_ hv
      rw [hp, Nat.mul_comm (64 ^ d) 64, ← Nat.mul_assoc]
      exact Nat.mul_le_mul_right _ (by omega)
    refine Ev.next ?_
    simp only [bulletinref03_Begins.l0, mkS_size]
    refine Ev.ite_pos (by omega) (Ev.ite_pos (by omega) ?_)
    rw [bt_mk l i hlt, hdr, List.all_cons]
    by_cases hc : isCont l[i] = true
    · have hc' := (cont_int _).1 hc
      refine Ev.ite_neg (by omega) (Ev.ite_neg (by omega) ?_)
      rw [wrap_digit v l[i].toNat (by omega) hc'.1 hc'.2, wrap_nat i (by omega), hc, Bool.true_and]
      refine ih (i + 1) _ (by omega) (by omega) hv2 R ?_
      intro ha
      have := hR (by rw [hdr, List.all_cons, hc, ha]; rfl)
      rw [hdr] at this
      exact this
    · have hc' : ¬ (128 ≤ l[i].toNat ∧ l[i].toNat ≤ 191) := fun x => hc ((cont_int _).2 x)
      have hcf : isCont l[i] = false := by simpa using hc
      rw [hcf, Bool.false_and]
      by_cases h1 : (l[i].toNat : Int) < 128
      · exact Ev.ite_pos h1 (Ev.const rfl)
      · exact Ev.ite_neg h1 (Ev.ite_pos (by omega) (Ev.const rfl))
theorem pow64 (d : Nat) (h : d ≤ 3) : 64 ^ d ≤ 262144 := by
  have : d = 0 ∨ d = 1 ∨ d = 2 ∨ d = 3 := by omega
  rcases this with rfl | rfl | rfl | rfl <;> decide
theorem begins_gen (c : UInt8) (t : List UInt8) (h : sizeU c ≠ 0) (hl : (c :: t).length ≤ sizeU c) (R : Bool × Int × Int)
    (hR : t.all isCont = true → Ev (fun k => bulletinref03_Begins.l1 k (sizeU c : Int) ((valL (modU (sizeU c)) (c :: t) : Nat) : Int) ((valL (modU (sizeU c)) (c :: t) : Nat) : Int) ((valL (modU (sizeU c)) (c :: t) : Nat) : Int) ((c :: t).length : Int)) R) :
    Ev (fun k => bulletinref03_Begins.f k (mkS (c :: t))) (if t.all isCont then R else (false, 0, 0)) := by
  have hs := (sizeU_of c).1
  have hlc : (c :: t).length = t.length + 1 := rfl
  have hb : bt (mkS (c :: t)) 0 = (c.toNat : Int) := bt_mk (c :: t) 0 (by omega)
  have hm := modU_le (sizeU c)
  unfold bulletinref03_Begins.f
  simp only [mkS_size]
  rw [hb]
  refine Ev.ite_pos (by omega) (Ev.bind (lead_one c h) ?_)
  refine Ev.ite_neg (by omega) ?_
  have hd : decide (((c :: t).length : Int) > (sizeU c : Int)) = false := decide_eq_false (by omega)
  rw [hd]
  refine Ev.next ?_
  simp only [bulletinref03_Begins.j0]
  refine Ev.ite_neg (by simp) ?_
  have hv : c.toNat % modU (sizeU c) < modU (sizeU c) := Nat.mod_lt _ hm.2
  have hv2 : c.toNat % modU (sizeU c) + 1 ≤ 128 := by omega
  have := l0_rounds (c :: t) (by omega) (sizeU c) ((c :: t).length - 1) 1 (c.toNat % modU (sizeU c)) rfl (by omega)
    (Nat.le_trans (Nat.mul_le_mul hv2 (pow64 _ (by omega))) (by omega)) R (fun ha => hR ha)
  exact this
theorem begins_full (c : UInt8) (t : List UInt8) (h : sizeU c ≠ 0) (hl : (c :: t).length = sizeU c) :
    ∃ v : Int, Ev (fun k => bulletinref03_Begins.f k (mkS (c :: t))) (okAll (sizeU c) (c :: t), (if okAll (sizeU c) (c :: t) then (sizeU c : Int) else 0), v) ∧ (okAll (sizeU c) (c :: t) = true → v = ((valL (modU (sizeU c)) (c :: t) : Nat) : Int)) := by
  have hs := (sizeU_of c).1
  have hlc : (c :: t).length = t.length + 1 := rfl
  have hg := begins_gen c t h (by omega) _ (fun _ => by rw [hl]; exact l1_full (sizeU c) (by omega) (by omega) (valL (modU (sizeU c)) (c :: t)))
  have hok : okAll (sizeU c) (c :: t) = (t.all isCont && okVal (sizeU c) (valL (modU (sizeU c)) (c :: t))) := rfl
  by_cases h1 : t.all isCont = true
  · by_cases h2 : okVal (sizeU c) (valL (modU (sizeU c)) (c :: t)) = true
    · rw [hok, h1, h2]
      rw [if_pos h1, if_pos h2] at hg
      exact ⟨_, hg, fun _ => rfl⟩
    · have h2' : okVal (sizeU c) (valL (modU (sizeU c)) (c :: t)) = false := by simpa using h2
      rw [hok, h1, h2']
      rw [if_pos h1, if_neg h2] at hg
      exact ⟨_, hg, fun h => by simp at h⟩
  · have h1' : t.all isCont = false := by simpa using h1
    rw [hok, h1']
    rw [if_neg h1] at hg
    exact ⟨_, hg, fun h => by simp at h⟩
theorem begins_part (c : UInt8) (t : List UInt8) (h : sizeU c ≠ 0) (hl : (c :: t).length ≤ sizeU c) : ∃ R, Ev (fun k => bulletinref03_Begins.f k (mkS (c :: t))) R := by
  have hs := (sizeU_of c).1
  obtain ⟨R, hR⟩ := l1_some (sizeU c) (by omega) (by omega) ((valL (modU (sizeU c)) (c :: t) : Nat) : Int) _ (c :: t).length rfl ((valL (modU (sizeU c)) (c :: t) : Nat) : Int) ((valL (modU (sizeU c)) (c :: t) : Nat) : Int)
  exact ⟨_, begins_gen c t h hl R (fun _ => hR)⟩
/-- The reference's First. -/
def FirstRes (l : List UInt8) (R : Int × Int × Int) : Prop := match decR l with
  | some (v, n) => R = ((v : Int), (n : Int), 0)
  | none => R.2.2 ≠ 0
theorem refFirst (l : List UInt8) (h0 : l ≠ []) : ∃ R, Ev (fun k => bulletinref03_First.f k (mkS l)) R ∧ FirstRes l R := by
  obtain ⟨c, t, rfl⟩ : ∃ c t, l = c :: t := by
    cases l with
    | nil => exact absurd rfl h0
    | cons c t => exact ⟨c, t, rfl⟩
  have hs := (sizeU_of c).1
  have hlc : (c :: t).length = t.length + 1 := rfl
  have e1 : (mkS (c :: t)).extract 0 1 = mkS [c] := by rw [extract_mk, mkS_toList]; rfl
  obtain ⟨v1, h1⟩ := begins_one c
  unfold bulletinref03_First.f
  simp only [mkS_size]
  rw [e1]
  by_cases hz : sizeU c = 0
  · have hd : decR (c :: t) = none := by simp only [decR]; rw [if_pos (.inl hz)]
    refine ⟨(0, 0, 6), ?_, by unfold FirstRes; rw [hd]; decide⟩
    refine Ev.ite_pos (by omega) (Ev.ite_pos (by omega) (Ev.bind h1 (Ev.ite_neg ?_ (Ev.const rfl))))
    simp [hz]
  · by_cases hn : sizeU c ≤ (c :: t).length
    · have e2 : (mkS (c :: t)).extract 0 ((sizeU c : Int)).toNat = mkS ((c :: t).take (sizeU c)) := by rw [extract_mk, mkS_toList, Int.toNat_natCast]; rfl
      have ht : (c :: t).take (sizeU c) = c :: t.take (sizeU c - 1) := by
        conv => lhs; rw [show sizeU c = (sizeU c - 1) + 1 by omega]
        rfl
      have htl : (c :: t.take (sizeU c - 1)).length = sizeU c := by rw [← ht, List.length_take]; omega
      obtain ⟨v2, h2, h3⟩ := begins_full c (t.take (sizeU c - 1)) hz htl
      rw [← ht] at h2 h3
      have hd : decR (c :: t) = if okAll (sizeU c) ((c :: t).take (sizeU c)) then some (valL (modU (sizeU c)) ((c :: t).take (sizeU c)), sizeU c) else none := by
        simp only [decR]; rw [if_neg (by omega)]
      rw [← e2] at h2
      by_cases hok : okAll (sizeU c) ((c :: t).take (sizeU c)) = true
      · rw [if_pos hok] at hd
        refine ⟨(((valL (modU (sizeU c)) ((c :: t).take (sizeU c)) : Nat) : Int), (sizeU c : Int), 0), ?_, by unfold FirstRes; rw [hd]⟩
        refine Ev.ite_pos (by omega) (Ev.ite_pos (by omega) (Ev.bind h1 (Ev.ite_pos (by simp [hz]) (Ev.ite_pos (by simp only [] ; omega) (Ev.ite_pos (by simp only []; omega) (Ev.ite_pos (by simp only []; omega) ?_))))))
        refine Ev.bind h2 (Ev.ite_pos hok (Ev.const ?_))
        rw [h3 hok]
      · rw [if_neg hok] at hd
        refine ⟨(0, 0, 3), ?_, by unfold FirstRes; rw [hd]; decide⟩
        refine Ev.ite_pos (by omega) (Ev.ite_pos (by omega) (Ev.bind h1 (Ev.ite_pos (by simp [hz]) (Ev.ite_pos (by simp only [] ; omega) (Ev.ite_pos (by simp only []; omega) (Ev.ite_pos (by simp only []; omega) ?_))))))
        exact Ev.bind h2 (Ev.ite_neg hok (Ev.const rfl))
    · have hd : decR (c :: t) = none := by simp only [decR]; rw [if_pos (.inr (by omega))]
      obtain ⟨R, h2⟩ := begins_part c t hz (by omega)
      have h1n : (decide (sizeU c ≠ 0)) = true := by simp [hz]
      by_cases hr : R.1 = true
      · refine ⟨(0, 0, 23), ?_, by unfold FirstRes; rw [hd]; decide⟩
        exact Ev.ite_pos (by omega) (Ev.ite_pos (by omega) (Ev.bind h1 (Ev.ite_pos h1n (Ev.ite_neg (by simp only [] ; omega) (Ev.bind h2 (Ev.ite_pos hr (Ev.const rfl)))))))
      · refine ⟨(0, 0, 3), ?_, by unfold FirstRes; rw [hd]; decide⟩
        exact Ev.ite_pos (by omega) (Ev.ite_pos (by omega) (Ev.bind h1 (Ev.ite_pos h1n (Ev.ite_neg (by simp only [] ; omega) (Ev.bind h2 (Ev.ite_neg hr (Ev.const rfl)))))))

def AllEnd (e : Option Nat) (p c : Int) : Prop := match e with
  | none => p = 0 ∧ c = 0
  | some q => p = (q : Int) ∧ c ≠ 0
theorem refAll (l : List UInt8) (hl : l.length ≤ 1000000) : ∀ f i : Nat, l.length - i ≤ f → i ≤ l.length → ∀ rs os : List Int, rs.length ≤ i → os.length ≤ i →
    ∃ p c : Int, Ev (fun k => bulletinref03_All.l0 k (mkS l) rs os (i : Int)) (rs ++ (runesG f i (l.drop i)).1.map (fun x => (x.2 : Int)), os ++ (runesG f i (l.drop i)).1.map (fun x => (x.1 : Int)), p, c) ∧ AllEnd (runesG f i (l.drop i)).2 p c := by
  intro f
  induction f with
  | zero =>
    intro i hf hi rs os hr ho
    refine ⟨0, 0, ?_, by unfold AllEnd runesG; exact ⟨rfl, rfl⟩⟩
    refine Ev.next ?_
    simp only [bulletinref03_All.l0, mkS_size]
    refine Ev.ite_neg (by omega) (Ev.const ?_)
    simp [runesG]
  | succ f ih =>
    intro i hf hi rs os hr ho
    by_cases hlt : i < l.length
    · have hne : l.drop i ≠ [] := by
        intro h
        have := congrArg List.length h
        rw [List.length_drop] at this
        simp at this; omega
      have e1 : (mkS l).extract ((i : Int)).toNat l.length = mkS (l.drop i) := by
        rw [Int.toNat_natCast, extract_mk, mkS_toList, List.take_of_length_le]; rw [List.length_drop]; omega
      obtain ⟨R, h1, h2⟩ := refFirst (l.drop i) hne
      rw [← e1] at h1
      cases hd : decR (l.drop i) with
      | none =>
        unfold FirstRes at h2
        rw [hd] at h2
        rw [runesG_none hne hd]
        refine ⟨(i : Int), R.2.2, ?_, ⟨rfl, h2⟩⟩
        refine Ev.next ?_
        simp only [bulletinref03_All.l0, mkS_size]
        refine Ev.ite_pos (by omega) (Ev.ite_pos (by omega) (Ev.ite_pos (by omega) (Ev.bind h1 (Ev.ite_neg h2 (Ev.const ?_)))))
        simp
      | some q =>
        obtain ⟨v, n⟩ := q
        unfold FirstRes at h2
        rw [hd] at h2
        subst h2
        obtain ⟨hp1, hp2, hp3, hp4⟩ := decR_pos hd
        rw [List.length_drop] at hp2
        rw [runesG_some hd, List.drop_drop]
        obtain ⟨p, c, h3, h4⟩ := ih (i + n) (by omega) (by omega) (rs ++ [(v : Int)]) (os ++ [(i : Int)]) (by simp; omega) (by simp; omega)
        refine ⟨p, c, ?_, h4⟩
        refine Ev.next ?_
        simp only [bulletinref03_All.l0, mkS_size]
        refine Ev.ite_pos (by omega) (Ev.ite_pos (by omega) (Ev.ite_pos (by omega) (Ev.bind h1 (Ev.ite_pos rfl (Ev.ite_pos (by omega) (Ev.ite_pos (by omega) ?_))))))
        show Ev (fun k => bulletinref03_All.l0 k (mkS l) (rs ++ [(v : Int)]) (os ++ [(i : Int)]) (wrap64 ((i : Int) + (n : Int)))) _
        rw [wrap_add i n (by omega)]
        refine h3.is ?_
        simp
    · have h0 : l.drop i = [] := List.drop_eq_nil_of_le (by omega)
      rw [h0, runesG_nil]
      refine ⟨0, 0, ?_, ⟨rfl, rfl⟩⟩
      refine Ev.next ?_
      simp only [bulletinref03_All.l0, mkS_size]
      refine Ev.ite_neg (by omega) (Ev.const ?_)
      simp
theorem refControl (v : Nat) : bulletinref03_Control.f (v : Int) = some (ctrlU v) := by
  unfold bulletinref03_Control.f ctrlU
  by_cases h1 : v ≤ 31
  · rw [if_pos (by omega)]; simp [h1]
  · rw [if_neg (by omega)]
    have h1' : decide (v ≤ 31) = false := decide_eq_false h1
    by_cases h2 : 127 ≤ v
    · rw [if_pos (by omega)]
      by_cases h3 : v ≤ 159
      · rw [if_pos (by omega)]; simp [h2, h3]
      · rw [if_neg (by omega)]
        by_cases h4 : v = 8232
        · rw [if_pos (by omega)]; simp [h4]
        · rw [if_neg (by omega)]
          by_cases h5 : v = 8233
          · subst h5; rfl
          · have : ((v : Int) == 8233) = false := by rw [beq_eq_false_iff_ne]; omega
            rw [this]; simp [h1, h3, h4, h5]
    · rw [if_neg (by omega), if_neg (by omega)]
      have : ((v : Int) == 8233) = false := by rw [beq_eq_false_iff_ne]; omega
      rw [this]
      have h4 : v ≠ 8232 := by omega
      have h5 : v ≠ 8233 := by omega
      simp [h1, h2, h4, h5]
theorem rd_map {α : Type} (g : α → Int) (xs : List α) (i : Nat) (h : i < xs.length) : rd (xs.map g) (i : Int) = g xs[i] := by
  unfold rd
  rw [Int.toNat_natCast, List.getD_eq_getElem?_getD, List.getElem?_map, List.getElem?_eq_getElem h]; rfl
theorem refBadL (xs : List (Nat × Nat)) (hx : xs.length ≤ 1000000) (p c : Int) : ∀ d i : Nat, xs.length - i = d → i ≤ xs.length →
    Ev (fun k => bulletinref15_bad.l0 k (xs.map (fun x => (x.2 : Int))) (xs.map (fun x => (x.1 : Int))) p c (i : Int)) (match (xs.drop i).find? (fun x => badV x.2) with | some x => (x.1 : Int) | none => if c = 0 then -1 else p) := by
  intro d
  induction d with
  | zero =>
    intro i hd hi
    have h0 : xs.drop i = [] := List.drop_eq_nil_of_le (by omega)
    rw [h0]
    refine Ev.next ?_
    simp only [bulletinref15_bad.l0, List.length_map]
    refine Ev.ite_neg (by omega) ?_
    show Ev (fun n => if c = 0 then some (-1 : Int) else some p) (if c = 0 then -1 else p)
    by_cases h : c = 0
    · exact Ev.rpos h (Ev.ite_pos h (Ev.const rfl))
    · exact Ev.rneg h (Ev.ite_neg h (Ev.const rfl))
  | succ d ih =>
    intro i hd hi
    have hlt : i < xs.length := by omega
    have hdr : xs.drop i = xs[i] :: xs.drop (i + 1) := List.drop_eq_getElem_cons hlt
    refine Ev.next ?_
    simp only [bulletinref15_bad.l0, List.length_map]
    refine Ev.ite_pos (by omega) (Ev.ite_pos (by omega) ?_)
    rw [rd_map (fun x : Nat × Nat => (x.2 : Int)) xs i hlt, rd_map (fun x : Nat × Nat => (x.1 : Int)) xs i hlt]
    rw [refControl, wrap_nat i (by omega), hdr, List.find?_cons]
    simp only [Option.bind_some]
    by_cases h1 : ctrlU xs[i].2 = true
    · refine Ev.ite_pos h1 ?_
      by_cases h2 : xs[i].2 = 9
      · refine Ev.ite_pos (by omega) ?_
        have : badV xs[i].2 = false := by unfold badV; simp [h2]
        rw [this]
        exact ih (i + 1) (by omega) (by omega)
      · refine Ev.ite_neg (by omega) (Ev.ite_pos (by omega) (Ev.const ?_))
        have : badV xs[i].2 = true := by unfold badV; simp [h1, h2]
        rw [this]
    · refine Ev.ite_neg h1 ?_
      have : badV xs[i].2 = false := by unfold badV; simp [h1]
      rw [this]
      exact ih (i + 1) (by omega) (by omega)
theorem runesG_len (f : Nat) : ∀ k l, (runesG f k l).1.length ≤ f := by
  induction f with
  | zero => intro k l; simp [runesG]
  | succ f ih =>
    intro k l
    by_cases h0 : l = []
    · subst h0; rw [runesG_nil]; simp
    · cases hd : decR l with
      | none => rw [runesG_none h0 hd]; simp
      | some q =>
        obtain ⟨v, n⟩ := q
        rw [runesG_some hd]
        have := ih (k + n) (l.drop n)
        simp; omega
theorem refBadF (l : List UInt8) (hl : l.length ≤ 1000000) : Ev (fun k => bulletinref15_bad.f k (mkS l)) (badU l) := by
  obtain ⟨p, c, h1, h2⟩ := refAll l hl l.length 0 (by omega) (by omega) [] [] (by simp) (by simp)
  rw [List.drop_zero] at h1 h2
  have hr : runesG l.length 0 l = runesU l := rfl
  rw [hr] at h1 h2
  simp only [List.nil_append] at h1
  unfold bulletinref15_bad.f bulletinref03_All.f
  refine Ev.bind h1 ?_
  have hx : (runesU l).1.length ≤ 1000000 := Nat.le_trans (runesG_len _ _ _) hl
  refine (refBadL (runesU l).1 hx p c _ 0 rfl (by omega)).is ?_
  rw [List.drop_zero]
  unfold badU AllEnd at *
  cases hf : (runesU l).1.find? (fun x => badV x.2) with
  | some x => rfl
  | none =>
    cases he : (runesU l).2 with
    | none => rw [he] at h2; simp [h2.2]
    | some q => rw [he] at h2; simp only []; rw [if_neg h2.2, h2.1]
end Go.Proofs.YtfeciafdioepiaaGreatDoor
set_option linter.unusedVariables false
set_option linter.unusedSimpArgs false
namespace Go.Proofs.YtfeciafdioepiaaGreatDoor
open Go.RowKit Go.Proofs Go.Proofs.YtfeciafdioepiaaGreatDoorW.PrintWords Go.Proofs.YtfeciafdioepiaaGreatDoor.PA

theorem extract_line (l : List UInt8) (i : Nat) : (mkS l).extract i (i + lineN (l.drop i)) = mkS ((l.drop i).take (lineN (l.drop i))) := by
  rw [extract_mk, mkS_toList]
  congr 2
  omega
end Go.Proofs.YtfeciafdioepiaaGreatDoor
set_option linter.unusedVariables false
set_option linter.unusedSimpArgs false
namespace Go.Proofs.YtfeciafdioepiaaGreatDoor
open Go.RowKit Go.Proofs Go.Proofs.YtfeciafdioepiaaGreatDoorW.PrintWords Go.Proofs.YtfeciafdioepiaaGreatDoorW.PrintMore Go.Proofs.YtfeciafdioepiaaGreatDoor.PA

/-- What a body's check answers, from a line's offset on; f: more than enough rounds. -/
def bodyG : Nat → Nat → List UInt8 → Int × Int
  | 0, _, _ => (0, 0)
  | f + 1, i, l => if l = [] then (0, 0) else if lineN l = l.length then (((i + l.length : Nat) : Int), 4)
    else if 998 < lineN l then (((i + 998 : Nat) : Int), 5)
    else if 0 ≤ badU (l.take (lineN l)) then ((i : Int) + badU (l.take (lineN l)), 6)
    else bodyG f (i + (lineN l + 1)) (l.drop (lineN l + 1))
def bodyU (l : List UInt8) : Int × Int := bodyG l.length 0 l
theorem bodyG_nil (f i : Nat) : bodyG f i [] = (0, 0) := by cases f <;> simp [bodyG]
theorem runesG_off (f : Nat) : ∀ k l, (∀ x ∈ (runesG f k l).1, x.1 ≤ k + l.length) ∧ ∀ p, (runesG f k l).2 = some p → p ≤ k + l.length := by
  induction f with
  | zero => intro k l; simp [runesG]
  | succ f ih =>
    intro k l
    by_cases h0 : l = []
    · subst h0; rw [runesG_nil]; simp
    · cases hd : decR l with
      | none =>
        rw [runesG_none h0 hd]
        refine ⟨by simp, fun p hp => ?_⟩
        injection hp with hp; omega
      | some q =>
        obtain ⟨v, n⟩ := q
        rw [runesG_some hd]
        obtain ⟨h1, h2⟩ := ih (k + n) (l.drop n)
        have hn := (decR_pos hd).2.1
        rw [List.length_drop] at h1 h2
        refine ⟨fun x hx => ?_, fun p hp => ?_⟩
        · rcases List.mem_cons.1 hx with rfl | hx
          · simp only []; omega
          · have := h1 x hx; omega
        · have := h2 p hp; omega
theorem badU_le (l : List UInt8) : -1 ≤ badU l ∧ badU l ≤ (l.length : Int) := by
  obtain ⟨h1, h2⟩ := runesG_off l.length 0 l
  have hr : runesG l.length 0 l = runesU l := rfl
  rw [hr] at h1 h2
  unfold badU
  cases hf : (runesU l).1.find? (fun x => badV x.2) with
  | some x =>
    have := h1 x (List.mem_of_find?_eq_some hf)
    simp only []; omega
  | none =>
    cases he : (runesU l).2 with
    | none => simp only []; omega
    | some q => have := h2 q he; simp only []; omega
theorem drop_ne {l : List UInt8} {i : Nat} (h : i < l.length) : l.drop i ≠ [] := by
  intro h1
  have := congrArg List.length h1
  rw [List.length_drop] at this
  simp at this; omega
theorem checkBody_loop (l : List UInt8) (hl : l.length ≤ 900000) : ∀ f i : Nat, l.length - i ≤ f → i ≤ l.length → Ev (fun k => PC.article_CheckBody.l0 k (mkS l) (i : Int)) (bodyG f i (l.drop i)) := by
  intro f
  induction f with
  | zero =>
    intro i hf hi
    refine Ev.next ?_
    simp only [PC.article_CheckBody.l0, mkS_size]
    exact Ev.ite_neg (by omega) (Ev.const rfl)
  | succ f ih =>
    intro i hf hi
    by_cases hlt : i < l.length
    · have hne := drop_ne hlt
      have e1 : (mkS l).extract ((i : Int)).toNat l.length = mkS (l.drop i) := by
        rw [Int.toNat_natCast, extract_mk, mkS_toList, List.take_of_length_le]; rw [List.length_drop]; omega
      have hld : (l.drop i).length = l.length - i := List.length_drop ..
      have hln := lineN_le (l.drop i)
      have hcut : GV.Cut.f (mkS (l.drop i)) ⟨#[10]⟩ = some (mkS ((l.drop i).take (lineN (l.drop i))), mkS ((l.drop i).drop (lineN (l.drop i) + 1)), hasNl (l.drop i)) := by
        unfold GV.Cut.f
        rw [if_pos ⟨rfl, by rw [mkS_size]; omega⟩, mkS_toList]
      refine Ev.next ?_
      simp only [PC.article_CheckBody.l0, mkS_size]
      rw [e1, hcut]
      refine Ev.ite_pos (by omega) (Ev.ite_pos (by omega) (Ev.ite_pos (by omega) ?_))
      simp only [Option.bind_some, mkS_size]
      unfold bodyG
      rw [if_neg hne]
      have htk : ((l.drop i).take (lineN (l.drop i))).length = lineN (l.drop i) := by rw [List.length_take]; omega
      rw [htk]
      by_cases h1 : lineN (l.drop i) = (l.drop i).length
      · rw [if_pos h1]
        refine Ev.ite_neg (by unfold hasNl; simp; omega) (Ev.const ?_)
        rw [show i + (l.drop i).length = l.length by omega]
      · rw [if_neg h1]
        refine Ev.ite_pos (by unfold hasNl; simp; omega) ?_
        by_cases h2 : 998 < lineN (l.drop i)
        · rw [if_pos h2]
          refine Ev.ite_pos (by omega) (Ev.const ?_)
          rw [show (998 : Int) = ((998 : Nat) : Int) from rfl, wrap_add i 998 (by omega)]
        · rw [if_neg h2]
          refine Ev.ite_neg (by omega) ?_
          have hbad : GV.badByte.f (mkS ((l.drop i).take (lineN (l.drop i)))) = some (badU ((l.drop i).take (lineN (l.drop i)))) := by
            unfold GV.badByte.f
            rw [if_pos (by rw [mkS_size]; omega), mkS_toList]
          rw [hbad]
          simp only [Option.bind_some]
          have hb := badU_le ((l.drop i).take (lineN (l.drop i)))
          rw [htk] at hb
          by_cases h3 : 0 ≤ badU ((l.drop i).take (lineN (l.drop i)))
          · rw [if_pos h3]
            refine Ev.ite_pos h3 (Ev.const ?_)
            rw [wrap64_small (by omega) (by omega)]
          · rw [if_neg h3]
            refine Ev.ite_neg h3 ?_
            have hw : wrap64 ((i : Int) + wrap64 ((lineN (l.drop i) : Int) + 1)) = ((i + (lineN (l.drop i) + 1) : Nat) : Int) := by
              rw [wrap_nat _ (by omega), wrap_add _ _ (by omega)]
            rw [hw, List.drop_drop]
            exact ih _ (by omega) (by omega)
    · rw [List.drop_eq_nil_of_le (by omega), bodyG_nil]
      refine Ev.next ?_
      simp only [PC.article_CheckBody.l0, mkS_size]
      exact Ev.ite_neg (by omega) (Ev.const rfl)
theorem checkBodyF (l : List UInt8) (hl : l.length ≤ 900000) : Ev (fun k => PC.article_CheckBody.f k (mkS l)) (bodyU l) := by
  have := checkBody_loop l hl l.length 0 (by omega) (by omega)
  rw [List.drop_zero] at this
  exact this
theorem refEndE (l : List UInt8) (hl : l.length ≤ 1000000) (i : Nat) (hi : i ≤ l.length) : Ev (fun k => bulletinref15_end.f k (mkS l) (i : Int)) ((i + lineN (l.drop i) : Nat) : Int) :=
  ⟨l.length - i + 1, fun k hk => endF l hl k i (by omega) hi⟩
theorem refBody_loop (l : List UInt8) (hl : l.length ≤ 900000) : ∀ f i : Nat, l.length - i ≤ f → i ≤ l.length → Ev (fun k => bulletinref15_Body.l0 k (mkS l) (i : Int)) (bodyG f i (l.drop i)) := by
  intro f
  induction f with
  | zero =>
    intro i hf hi
    refine Ev.next ?_
    simp only [bulletinref15_Body.l0, mkS_size]
    exact Ev.ite_neg (by omega) (Ev.const rfl)
  | succ f ih =>
    intro i hf hi
    by_cases hlt : i < l.length
    · have hne := drop_ne hlt
      have hld : (l.drop i).length = l.length - i := List.length_drop ..
      have hln := lineN_le (l.drop i)
      have e1 : (mkS l).extract ((i : Int)).toNat (((i + lineN (l.drop i) : Nat) : Int)).toNat = mkS ((l.drop i).take (lineN (l.drop i))) := by
        rw [Int.toNat_natCast, Int.toNat_natCast]; exact extract_line l i
      refine Ev.next ?_
      simp only [bulletinref15_Body.l0, mkS_size]
      refine Ev.ite_pos (by omega) (Ev.bind (refEndE l (by omega) i hi) ?_)
      unfold bodyG
      rw [if_neg hne]
      have htk : ((l.drop i).take (lineN (l.drop i))).length = lineN (l.drop i) := by rw [List.length_take]; omega
      by_cases h1 : lineN (l.drop i) = (l.drop i).length
      · rw [if_pos h1]
        refine Ev.ite_pos (by omega) (Ev.const ?_)
        rw [show i + (l.drop i).length = l.length by omega]
      · rw [if_neg h1]
        refine Ev.ite_neg (by omega) ?_
        have hw1 : wrap64 (((i + lineN (l.drop i) : Nat) : Int) - (i : Int)) = (lineN (l.drop i) : Int) := by
          rw [show ((i + lineN (l.drop i) : Nat) : Int) - (i : Int) = (lineN (l.drop i) : Int) by omega, wrap64_small (by omega) (by omega)]
        rw [hw1]
        by_cases h2 : 998 < lineN (l.drop i)
        · rw [if_pos h2]
          refine Ev.ite_pos (by omega) (Ev.const ?_)
          rw [show (998 : Int) = ((998 : Nat) : Int) from rfl, wrap_add i 998 (by omega)]
        · rw [if_neg h2]
          refine Ev.ite_neg (by omega) (Ev.ite_pos (by omega) (Ev.ite_pos (by omega) (Ev.ite_pos (by omega) ?_)))
          rw [e1]
          refine Ev.bind (refBadF _ (by omega)) ?_
          have hb := badU_le ((l.drop i).take (lineN (l.drop i)))
          rw [htk] at hb
          by_cases h3 : 0 ≤ badU ((l.drop i).take (lineN (l.drop i)))
          · rw [if_pos h3]
            refine Ev.ite_pos h3 (Ev.const ?_)
            rw [wrap64_small (by omega) (by omega)]
          · rw [if_neg h3]
            refine Ev.ite_neg h3 ?_
            rw [wrap_nat _ (by omega), List.drop_drop]
            exact ih _ (by omega) (by omega)
    · rw [List.drop_eq_nil_of_le (by omega), bodyG_nil]
      refine Ev.next ?_
      simp only [bulletinref15_Body.l0, mkS_size]
      exact Ev.ite_neg (by omega) (Ev.const rfl)
theorem refBodyF (l : List UInt8) (hl : l.length ≤ 900000) : Ev (fun k => bulletinref15_Body.f k (mkS l)) (bodyU l) := by
  have := refBody_loop l hl l.length 0 (by omega) (by omega)
  rw [List.drop_zero] at this
  exact this
theorem bodyG_le (f : Nat) : ∀ i l, 0 ≤ (bodyG f i l).1 ∧ (bodyG f i l).1 ≤ ((i + l.length : Nat) : Int) := by
  induction f with
  | zero => intro i l; simp [bodyG]; omega
  | succ f ih =>
    intro i l
    have hln := lineN_le l
    unfold bodyG
    split
    · simp; omega
    · split
      · simp only []; omega
      · split
        · simp only []; omega
        · have hb := badU_le (l.take (lineN l))
          have htk : (l.take (lineN l)).length = lineN l := by rw [List.length_take]; omega
          rw [htk] at hb
          split
          · simp only []; omega
          · have := ih (i + (lineN l + 1)) (l.drop (lineN l + 1))
            rw [List.length_drop] at this
            refine ⟨this.1, Int.le_trans this.2 ?_⟩
            omega
theorem bodyU_le (l : List UInt8) : 0 ≤ (bodyU l).1 ∧ (bodyU l).1 ≤ (l.length : Int) := by
  have := bodyG_le l.length 0 l
  rw [Nat.zero_add] at this
  exact this
end Go.Proofs.YtfeciafdioepiaaGreatDoor
set_option linter.unusedVariables false
set_option linter.unusedSimpArgs false
namespace Go.Proofs.YtfeciafdioepiaaGreatDoor
open Go.RowKit Go.Proofs Go.Proofs.YtfeciafdioepiaaGreatDoorW.PrintWords Go.Proofs.YtfeciafdioepiaaGreatDoorW.PrintMore Go.Proofs.YtfeciafdioepiaaGreatDoor.PA

/-! ### the header -/
def headL (l : List UInt8) : List UInt8 × Bool :=
  if Lib.hasPrefix l [10] = true then ([], true)
  else if 0 ≤ Lib.index l [10, 10] then (l.take (Lib.index l [10, 10] + 1).toNat, true)
  else (l, false)
theorem headA_mk (l : List UInt8) : headA (mkS l) = (mkS (headL l).1, (headL l).2) := by
  unfold headA headL
  rw [mkS_toList]
  split
  · rfl
  · split
    · rw [extract_mk, mkS_toList, List.drop_zero, Nat.sub_zero]
    · rfl
theorem occ2 (l : List UInt8) (j : Nat) : Lib.occAt l [10, 10] j = true ↔ (l[j]? = some 10 ∧ l[j + 1]? = some 10) := by
  unfold Lib.occAt
  have e0 : l[j]? = (l.drop j)[0]? := by rw [List.getElem?_drop]; rfl
  have e1 : l[j + 1]? = (l.drop j)[1]? := by rw [List.getElem?_drop]
  rw [e0, e1]
  generalize l.drop j = t
  match t with
  | [] => simp [List.isPrefixOf]
  | [a] => simp [List.isPrefixOf]
  | a :: b :: r =>
    simp [List.isPrefixOf]
    constructor
    · rintro ⟨rfl, rfl⟩; exact ⟨rfl, rfl⟩
    · rintro ⟨rfl, rfl⟩; exact ⟨rfl, rfl⟩
theorem pref10 (l : List UInt8) : Lib.hasPrefix l [10] = true ↔ l[0]? = some 10 := by
  unfold Lib.hasPrefix
  cases l with
  | nil => simp [List.isPrefixOf]
  | cons a r =>
    simp [List.isPrefixOf]
    constructor
    · rintro rfl; rfl
    · rintro rfl; rfl
/-- What is known at the beginning of a line when no empty line came up. -/
structure HInv (l : List UInt8) (i : Nat) : Prop where
  no : ∀ j, j + 1 < i → ¬ (l[j]? = some 10 ∧ l[j + 1]? = some 10)
  first : 0 < i → l[0]? ≠ some 10
  at_ : 0 < i → i ≤ l.length → l[i - 1]? = some 10
theorem head_found {l : List UInt8} {i : Nat} (h : HInv l i) (hi : l[i]? = some 10) : headL l = (l.take i, true) := by
  have hlt : i < l.length := (List.getElem?_eq_some_iff.1 hi).1
  unfold headL
  by_cases h0 : i = 0
  · subst h0
    rw [if_pos ((pref10 l).2 hi)]; rfl
  · have hp := h.first (by omega)
    rw [if_neg (fun x => hp ((pref10 l).1 x))]
    have hx : Lib.index l [10, 10] = ((i - 1 : Nat) : Int) := by
      refine Lib.index_hit (fun j hj => ?_) (by omega) ((occ2 l (i - 1)).2 ⟨h.at_ (by omega) (by omega), by rw [show i - 1 + 1 = i by omega]; exact hi⟩)
      have := h.no j (by omega)
      cases ho : Lib.occAt l [10, 10] j with
      | false => rfl
      | true => exact absurd ((occ2 l j).1 ho) this
    rw [hx, if_pos (by omega)]
    rw [show (((i - 1 : Nat) : Int) + 1).toNat = i by omega]
theorem headL_len (l : List UInt8) : (headL l).1.length ≤ l.length := by
  unfold headL
  split
  · simp
  · split
    · simp only [List.length_take]; omega
    · exact Nat.le_refl _
/-! ### Parse -/
def bodyOf (l : List UInt8) : List UInt8 := l.drop ((headL l).1.length + 1)
def apR (l : List UInt8) : List Fld × List UInt8 × Int × Int :=
  if 65536 < l.length then ([], [], 65536, 5)
  else if (parseP (headL l).1).2.2 ≠ 0 then ([], [], (parseP (headL l).1).2.1, (parseP (headL l).1).2.2)
  else if (headL l).2 = false then ([], [], (l.length : Int), 4)
  else if (bodyU (bodyOf l)).2 ≠ 0 then ([], [], (((headL l).1.length + 1 : Nat) : Int) + (bodyU (bodyOf l)).1, (bodyU (bodyOf l)).2)
  else ((parseP (headL l).1).1, bodyOf l, 0, 0)
theorem aparseF (l : List UInt8) (hl : l.length ≤ 900000) : Ev (fun k => GV.AParse.f k (mkS l)) ((apR l).1.map toS, mkS (apR l).2.1, (apR l).2.2.1, (apR l).2.2.2) := by
  have hh := headA_mk l
  have hle := headL_len l
  have e1 : errA (mkS l) = (parseP (headL l).1).2.2 := by unfold errA; rw [hh]; simp only [mkS_toList]
  have e2 : atA (mkS l) = (parseP (headL l).1).2.1 := by unfold atA; rw [hh]; simp only [mkS_toList]
  have e3 : fldsA (mkS l) = (parseP (headL l).1).1.map toS := by unfold fldsA; rw [hh]; simp only [mkS_toList]
  have e4 : restA (mkS l) = mkS (bodyOf l) := by
    unfold restA bodyOf; rw [hh]
    simp only [mkS_size]
    rw [extract_mk, mkS_toList, List.take_of_length_le (by rw [List.length_drop]; omega)]
  unfold GV.AParse.f
  rw [e1, e2, e3, e4, hh]
  simp only [mkS_size]
  by_cases h1 : 65536 < l.length
  · have e : apR l = ([], [], 65536, 5) := by unfold apR; rw [if_pos h1]
    rw [e]; exact Ev.ite_pos h1 (Ev.const rfl)
  · refine Ev.ite_neg h1 ?_
    by_cases h2 : (parseP (headL l).1).2.2 ≠ 0
    · have e : apR l = ([], [], (parseP (headL l).1).2.1, (parseP (headL l).1).2.2) := by unfold apR; rw [if_neg h1, if_pos h2]
      rw [e]; exact Ev.ite_pos h2 (Ev.const rfl)
    · refine Ev.ite_neg h2 ?_
      by_cases h3 : (headL l).2 = false
      · have e : apR l = ([], [], (l.length : Int), 4) := by unfold apR; rw [if_neg h1, if_neg h2, if_pos h3]
        rw [e]; exact Ev.ite_pos h3 (Ev.const rfl)
      · have hbl : (bodyOf l).length ≤ l.length := by unfold bodyOf; rw [List.length_drop]; omega
        have hb := bodyU_le (bodyOf l)
        refine Ev.ite_neg h3 (Ev.bind (checkBodyF (bodyOf l) (by omega)) ?_)
        by_cases h4 : (bodyU (bodyOf l)).2 ≠ 0
        · have e : apR l = ([], [], (((headL l).1.length + 1 : Nat) : Int) + (bodyU (bodyOf l)).1, (bodyU (bodyOf l)).2) := by unfold apR; rw [if_neg h1, if_neg h2, if_neg h3, if_pos h4]
          rw [e]
          refine Ev.ite_pos h4 (Ev.const ?_)
          rw [wrap64_small (by omega) (by omega)]
          have e5 : ((headL l).1.length : Int) + 1 + (bodyU (bodyOf l)).1 = (((headL l).1.length + 1 : Nat) : Int) + (bodyU (bodyOf l)).1 := by omega
          rw [e5]; rfl
        · have e : apR l = ((parseP (headL l).1).1, bodyOf l, 0, 0) := by unfold apR; rw [if_neg h1, if_neg h2, if_neg h3, if_neg h4]
          rw [e]; exact Ev.ite_neg h4 (Ev.const rfl)
/-! ### the same -/
theorem rd76 (l : List S76) (i : Nat) (h : i < l.length) : rd_T76 l (i : Int) = l[i] := by
  unfold rd_T76; rw [Int.toNat_natCast, List.getD_eq_getElem?_getD, List.getElem?_eq_getElem h]; rfl
theorem rd78 (l : List S78) (i : Nat) (h : i < l.length) : rd_T78 l (i : Int) = l[i] := by
  unfold rd_T78; rw [Int.toNat_natCast, List.getD_eq_getElem?_getD, List.getElem?_eq_getElem h]; rfl
theorem same_loop (fs : List Fld) (hn : fs.length ≤ 1100000) (b : ByteArray) : ∀ d i : Nat, fs.length - i = d → i ≤ fs.length → Ev (fun k => bulletinlaw15_same.l0 k (i : Int) (fs.map toS) b (fs.map toR) b) true := by
  intro d
  induction d with
  | zero =>
    intro i hd hi
    refine Ev.next ?_
    simp only [bulletinlaw15_same.l0, List.length_map]
    exact Ev.ite_neg (by omega) (Ev.const rfl)
  | succ d ih =>
    intro i hd hi
    have hlt : i < fs.length := by omega
    refine Ev.next ?_
    simp only [bulletinlaw15_same.l0, List.length_map]
    rw [rd76 _ i (by rw [List.length_map]; exact hlt), rd78 _ i (by rw [List.length_map]; exact hlt), List.getElem_map, List.getElem_map, wrap_nat i (by omega)]
    exact Ev.ite_pos (by omega) (Ev.ite_pos (by omega) (Ev.ite_pos (by omega) (Ev.ite_pos rfl (Ev.ite_pos rfl (ih (i + 1) (by omega) (by omega))))))
theorem same15 (fs : List Fld) (hn : fs.length ≤ 1100000) (b : ByteArray) : Ev (fun k => bulletinlaw15_same.f k (fs.map toS) b (fs.map toR) b) true := by
  unfold bulletinlaw15_same.f
  refine Ev.ite_pos (by simp) ?_
  refine Ev.next ?_
  simp only [bulletinlaw15_same.j0]
  exact Ev.ite_neg (by simp) (same_loop fs hn b _ 0 rfl (by omega))

/-! ### Print -/
def apP (fs : List Fld) (b : List UInt8) : List UInt8 × Int :=
  if (printP fs).2 ≠ 0 then ([], (printP fs).2) else if (bodyU b).2 ≠ 0 then ([], (bodyU b).2)
  else if 65536 < (printP fs).1.length + 1 + b.length then ([], 5) else ((printP fs).1 ++ 10 :: b, 0)
theorem printHdr (fs : List Fld) (b : List UInt8) (hb : b.length ≤ 900000) :
    (if (wrap64 ((wrap64 (((mkS (printP fs).1).size : Int) + 1)) + ((mkS b).size : Int))) > 65536 then (some ((⟨#[]⟩ : ByteArray), (5 : Int))) else (if (mkS (printP fs).1).size + 1 ≤ 9223372036854775807 then (if ((mkS (printP fs).1) ++ (⟨#[10]⟩ : ByteArray)).size + (mkS b).size ≤ 9223372036854775807 then (some (((mkS (printP fs).1) ++ (⟨#[10]⟩ : ByteArray)) ++ mkS b, 0)) else (none)) else (none))) =
    some (if 65536 < (printP fs).1.length + 1 + b.length then (⟨#[]⟩, 5) else (mkS ((printP fs).1 ++ 10 :: b), 0)) := by
  have hp := printP_small fs
  have e3 : ∀ t : List UInt8, mkS t ++ (⟨#[10]⟩ : ByteArray) = mkS (t ++ [10]) := fun t => mkS_append t [10]
  rw [e3, mkS_append, mkS_size, mkS_size, mkS_size, wrap_nat _ (by omega), wrap_add _ _ (by omega)]
  by_cases h : 65536 < (printP fs).1.length + 1 + b.length
  · rw [if_pos (by omega), if_pos h]
  · rw [if_neg (by omega), if_neg h, if_pos (by omega), if_pos (by simp; omega)]
    simp
theorem aprintF (fs : List Fld) (hf : ∀ f ∈ fs, f.name.length ≤ 1100000 ∧ f.body.length ≤ 1100000) (b : List UInt8) (hb : b.length ≤ 900000) : Ev (fun k => PC.article_Print.f k (fs.map toS) (mkS b)) (mkS (apP fs b).1, (apP fs b).2) := by
  unfold PC.article_Print.f
  refine Ev.bind (printF fs hf) ?_
  simp only []
  rw [printHdr fs b hb]
  by_cases h1 : (printP fs).2 ≠ 0
  · have e : apP fs b = ([], (printP fs).2) := by unfold apP; rw [if_pos h1]
    rw [e]; exact Ev.ite_neg h1 (Ev.const rfl)
  · refine Ev.ite_pos (by simpa using h1) (Ev.bind (checkBodyF b hb) ?_)
    by_cases h2 : (bodyU b).2 ≠ 0
    · have e : apP fs b = ([], (bodyU b).2) := by unfold apP; rw [if_neg h1, if_pos h2]
      rw [e]; exact Ev.ite_neg h2 (Ev.const rfl)
    · refine Ev.ite_pos (by simpa using h2) (Ev.const ?_)
      unfold apP
      rw [if_neg h1, if_neg h2]
      split <;> rfl
theorem refPrint15 (fs : List Fld) (hf : ∀ f ∈ fs, f.name.length ≤ 1100000 ∧ f.body.length ≤ 1100000) (b : List UInt8) (hb : b.length ≤ 900000) : Ev (fun k => bulletinref15_Print.f k (fs.map toR) (mkS b)) (mkS (apP fs b).1, (apP fs b).2) := by
  unfold bulletinref15_Print.f
  refine Ev.bind (refPrintF fs hf) ?_
  simp only []
  rw [printHdr fs b hb]
  by_cases h1 : (printP fs).2 ≠ 0
  · have e : apP fs b = ([], (printP fs).2) := by unfold apP; rw [if_pos h1]
    rw [e]; exact Ev.ite_neg h1 (Ev.const rfl)
  · refine Ev.ite_pos (by simpa using h1) (Ev.bind (refBodyF b hb) ?_)
    by_cases h2 : (bodyU b).2 ≠ 0
    · have e : apP fs b = ([], (bodyU b).2) := by unfold apP; rw [if_neg h1, if_pos h2]
      rw [e]; exact Ev.ite_neg h2 (Ev.const rfl)
    · refine Ev.ite_pos (by simpa using h2) (Ev.const ?_)
      unfold apP
      rw [if_neg h1, if_neg h2]
      split <;> rfl

/-! ### parsed behind printing -/
/-- Lines that are not empty. -/
inductive HLines : List UInt8 → Prop
  | nil : HLines []
  | cons {t r : List UInt8} (h0 : t ≠ []) (h1 : ∀ c ∈ t, notNl c = true) (h : HLines r) : HLines (t ++ 10 :: r)
theorem HLines.app {a b : List UInt8} (ha : HLines a) (hb : HLines b) : HLines (a ++ b) := by
  induction ha with
  | nil => exact hb
  | cons h0 h1 h ih =>
    rename_i t r
    have e : (t ++ 10 :: r) ++ b = t ++ 10 :: (r ++ b) := by simp
    rw [e]; exact .cons h0 h1 ih
theorem HLines.one {t : List UInt8} (h0 : t ≠ []) (h1 : ∀ c ∈ t, notNl c = true) : HLines (t ++ [10]) := .cons h0 h1 .nil
theorem foldW_lines : ∀ (ws : List (List UInt8)) (out line : List UInt8) (e : Bool), HLines out → line ≠ [] → (∀ c ∈ line, notNl c = true) → (∀ x ∈ ws, ∀ c ∈ x, notNl c = true) → HLines (foldW ws out line e)
  | [], out, line, e, ho, h0, h1, _ => ho.app (.one h0 h1)
  | x :: xs, out, line, e, ho, h0, h1, hw => by
    have hx := hw x (by simp)
    have hxs : ∀ y ∈ xs, ∀ c ∈ y, notNl c = true := fun y hy => hw y (by simp [hy])
    unfold foldW
    split
    · refine foldW_lines xs _ _ _ (ho.app (.one h0 h1)) (by simp) (fun c hc => ?_) hxs
      rcases List.mem_cons.1 hc with rfl | hc
      · decide
      · exact hx c hc
    · refine foldW_lines xs _ _ _ ho (by simp) (fun c hc => ?_) hxs
      rcases List.mem_append.1 hc with hc | hc
      · exact h1 c hc
      · rcases List.mem_cons.1 hc with rfl | hc
        · decide
        · exact hx c hc
theorem foldL_lines {f : Fld} (h : GoodF f) : HLines (foldL f.name f.body) := by
  unfold foldL
  obtain ⟨h1, h2, h3⟩ := valid_parts h.name
  refine foldW_lines _ _ _ _ .nil (by simp) (fun c hc => ?_) (fun x hx c hc => ((h.words x hx).2.2 c hc).2)
  rcases List.mem_append.1 hc with hc | hc
  · exact (name_bytes c (h3 c hc)).2.1
  · have : c = 58 := by simpa using hc
    subst this; decide
theorem printL_lines : ∀ fs : List Fld, (∀ f ∈ fs, GoodF f) → HLines (printL fs)
  | [], _ => .nil
  | f :: fs, h => by
    have e : printL (f :: fs) = foldL f.name f.body ++ printL fs := by simp [printL]
    rw [e]; exact (foldL_lines (h f (by simp))).app (printL_lines fs (fun g hg => h g (by simp [hg])))
theorem HLines.inv {a : List UInt8} (h : HLines a) : (∀ j : Nat, ¬ (a[j]? = some 10 ∧ a[j + 1]? = some 10)) ∧ a[0]? ≠ some 10 ∧ (a ≠ [] → a[a.length - 1]? = some 10) := by
  induction h with
  | nil => refine ⟨fun j => by simp, by simp, fun h => absurd rfl h⟩
  | cons h0 h1 h ih =>
    rename_i t r
    obtain ⟨i1, i2, i3⟩ := ih
    have hlt : ∀ j, j < t.length → (t ++ 10 :: r)[j]? ≠ some 10 := by
      intro j hj hc
      rw [List.getElem?_append_left hj, List.getElem?_eq_getElem hj] at hc
      injection hc with hc
      have := h1 _ (List.getElem_mem hj)
      rw [hc] at this
      exact absurd this (by decide)
    have hge : ∀ j, (t ++ 10 :: r)[t.length + 1 + j]? = r[j]? := by
      intro j
      rw [List.getElem?_append_right (by omega), show t.length + 1 + j - t.length = j + 1 by omega, List.getElem?_cons_succ]
    have htl : 0 < t.length := List.length_pos_iff.2 h0
    refine ⟨fun j => ?_, hlt 0 htl, fun _ => ?_⟩
    · rintro ⟨c1, c2⟩
      by_cases hj : j < t.length
      · exact hlt j hj c1
      · by_cases hk : j = t.length
        · subst hk
          have := hge 0
          rw [Nat.add_zero] at this
          rw [this] at c2
          exact i2 c2
        · obtain ⟨m, rfl⟩ : ∃ m, j = t.length + 1 + m := ⟨j - t.length - 1, by omega⟩
          rw [hge m] at c1
          rw [show t.length + 1 + m + 1 = t.length + 1 + (m + 1) by omega, hge (m + 1)] at c2
          exact i1 m ⟨c1, c2⟩
    · by_cases hr : r = []
      · subst hr
        simp
      · have hrl : 0 < r.length := List.length_pos_iff.2 hr
        have e : (t ++ 10 :: r).length - 1 = t.length + 1 + (r.length - 1) := by simp; omega
        rw [e, hge]
        exact i3 hr
theorem head_printed {h b : List UInt8} (hh : HLines h) : headL (h ++ 10 :: b) = (h, true) := by
  obtain ⟨i1, i2, i3⟩ := hh.inv
  have hlt : ∀ j, j < h.length → (h ++ 10 :: b)[j]? = h[j]? := fun j hj => List.getElem?_append_left hj
  have hi : HInv (h ++ 10 :: b) h.length := by
    refine ⟨fun j hj => ?_, fun h0 => ?_, fun h0 _ => ?_⟩
    · rw [hlt j (by omega), hlt (j + 1) (by omega)]; exact i1 j
    · rw [hlt 0 h0]; exact i2
    · rw [hlt _ (by omega)]; exact i3 (List.length_pos_iff.1 h0)
  have := head_found hi (by simp)
  rw [this, List.take_left]
theorem parse_printed (fs : List Fld) (b : List UInt8) (h : (apP fs b).2 = 0) : (apP fs b).1.length ≤ 65536 ∧ apR (apP fs b).1 = (fs, b, 0, 0) := by
  unfold apP at h ⊢
  by_cases h1 : (printP fs).2 ≠ 0
  · rw [if_pos h1] at h; exact absurd h h1
  · rw [if_neg h1] at h ⊢
    by_cases h2 : (bodyU b).2 ≠ 0
    · rw [if_pos h2] at h; exact absurd h h2
    · rw [if_neg h2] at h ⊢
      by_cases h3 : 65536 < (printP fs).1.length + 1 + b.length
      · rw [if_pos h3] at h; exact absurd h (by decide)
      · rw [if_neg h3]
        have hp0 : (printP fs).2 = 0 := by simpa using h1
        have hpo := printP_ok fs hp0
        have hlen : ((printP fs).1 ++ 10 :: b).length ≤ 65536 := by simp; omega
        have h64 : ¬ 64 < fs.length := by
          intro h64
          unfold printP at hp0
          rw [if_pos h64] at hp0
          exact absurd hp0 (by decide)
        have hgo : (printGo fs []).2 = 0 := by
          unfold printP at hp0; rw [if_neg h64] at hp0; exact hp0
        obtain ⟨hc, he, _⟩ := printGo_ok fs [] hgo
        have he2 : (printP fs).1 = printL fs := by
          unfold printP; rw [if_neg h64, he, List.nil_append]
        have hlines : HLines (printP fs).1 := by
          rw [he2]; exact printL_lines fs (fun f hf => good_of_check (hc f hf))
        refine ⟨hlen, ?_⟩
        have hh := head_printed (b := b) hlines
        have hbo : bodyOf ((printP fs).1 ++ 10 :: b) = b := by
          unfold bodyOf
          rw [hh]
          simp only []
          rw [← List.drop_drop, List.drop_left]; rfl
        show apR ((printP fs).1 ++ 10 :: b) = (fs, b, 0, 0)
        unfold apR
        rw [if_neg (by omega), hbo, hh]
        simp only [hpo]
        rw [if_neg (by decide), if_neg (by decide), if_neg h2]
end Go.Proofs.YtfeciafdioepiaaGreatDoor
set_option linter.unusedVariables false
set_option linter.unusedSimpArgs false
namespace Go.Proofs.YtfeciafdioepiaaGreatDoor
open Go.RowKit Go.Proofs Go.Proofs.YtfeciafdioepiaaGreatDoorW.PrintWords Go.Proofs.YtfeciafdioepiaaGreatDoorW.PrintMore Go.Proofs.YtfeciafdioepiaaGreatDoor.PA
def fldOf (x : S76) : Fld := ⟨x.f0.data.toList, x.f1.data.toList⟩
def rOf (x : S76) : S78 := ⟨x.f0, x.f1⟩
def sBack (x : S78) : S76 := ⟨x.f0, x.f1⟩
theorem rOf_fld (xs : List S76) : (xs.map fldOf).map toR = xs.map rOf := by
  rw [List.map_map]
  apply List.map_congr_left
  intro x _
  show (⟨mkS x.f0.data.toList, mkS x.f1.data.toList⟩ : S78) = ⟨x.f0, x.f1⟩
  rw [mkS_data, mkS_data]
theorem sBack_r (fs : List Fld) : (fs.map toR).map sBack = fs.map toS := by rw [List.map_map]; rfl
theorem to15_loop (xs : List S76) (s u : ByteArray) : ∀ d i : Nat, min xs.length 70 - i = d → i ≤ min xs.length 70 →
    Ev (fun k => bulletinlaw15_to.l0 k (i : Int) xs s ((xs.take i).map rOf) u) ((xs.take 70).map rOf, u) := by
  intro d
  induction d with
  | zero =>
    intro i hd hi
    have e : xs.take i = xs.take 70 := by rw [List.take_eq_take_iff]; omega
    rw [e]
    refine Ev.next ?_
    simp only [bulletinlaw15_to.l0]
    by_cases h : (i : Int) < (xs.length : Int)
    · exact Ev.ite_pos h (Ev.ite_neg (by omega) (Ev.const rfl))
    · exact Ev.ite_neg h (Ev.const rfl)
  | succ d ih =>
    intro i hd hi
    have hlt : i < xs.length := by omega
    refine Ev.next ?_
    simp only [bulletinlaw15_to.l0]
    rw [rd76 xs i hlt, wrap_nat i (by omega)]
    refine Ev.ite_pos (by omega) (Ev.ite_pos (by omega) (Ev.ite_pos (by omega) (Ev.ite_pos (by rw [List.length_map, List.length_take]; omega) ?_)))
    have := ih (i + 1) (by omega) (by omega)
    rw [List.take_succ_eq_append_getElem hlt, List.map_append] at this
    exact this
theorem to15F (xs : List S76) (l : List UInt8) : Ev (fun k => bulletinlaw15_to.f k xs (mkS l)) ((xs.take 70).map rOf, mkS (l.take 3000)) := by
  unfold bulletinlaw15_to.f
  have hm : mn ((mkS l).size : Int) 3000 = ((min l.length 3000 : Nat) : Int) := by rw [mkS_size]; exact mn_nat l.length 3000
  rw [hm, mkS_size]
  refine Ev.ite_pos (by omega) (Ev.ite_pos (by omega) ?_)
  have e : (mkS l).extract 0 (((min l.length 3000 : Nat) : Int)).toNat = mkS (l.take 3000) := by
    rw [Int.toNat_natCast, extract_mk, mkS_toList, List.drop_zero, Nat.sub_zero]
    congr 1
    rw [List.take_eq_take_iff]; omega
  rw [e]
  exact to15_loop xs (mkS l) _ _ 0 rfl (by omega)
theorem back_loop (rs : List S78) (hn : rs.length ≤ 1000000) (b c : ByteArray) : ∀ d i : Nat, rs.length - i = d → i ≤ rs.length → Ev (fun k => bulletinlaw15_back.l0 k (i : Int) rs b ((rs.take i).map sBack) c) (rs.map sBack, c) := by
  intro d
  induction d with
  | zero =>
    intro i hd hi
    rw [List.take_of_length_le (by omega)]
    refine Ev.next ?_
    simp only [bulletinlaw15_back.l0]
    exact Ev.ite_neg (by omega) (Ev.const rfl)
  | succ d ih =>
    intro i hd hi
    have hlt : i < rs.length := by omega
    refine Ev.next ?_
    simp only [bulletinlaw15_back.l0]
    rw [rd78 rs i hlt, wrap_nat i (by omega)]
    refine Ev.ite_pos (by omega) (Ev.ite_pos (by omega) (Ev.ite_pos (by rw [List.length_map, List.length_take]; omega) ?_))
    have := ih (i + 1) (by omega) (by omega)
    rw [List.take_succ_eq_append_getElem hlt, List.map_append] at this
    exact this
theorem backF (rs : List S78) (hn : rs.length ≤ 1000000) (b : ByteArray) : Ev (fun k => bulletinlaw15_back.f k rs b) (rs.map sBack, b) := back_loop rs hn b b _ 0 rfl (by omega)
theorem Prints_pure (xs : List S76) (hx : ∀ x ∈ xs, x.f0.size ≤ 1100000 ∧ x.f1.size ≤ 1100000) (body : ByteArray) : ∃ k, PL.bulletinlaw15_ArticlePrints.f k xs body = some true := by
  obtain ⟨l, rfl⟩ : ∃ l, body = mkS l := ⟨body.data.toList, (mkS_data body).symm⟩
  refine Ev.at_ ?_
  unfold PL.bulletinlaw15_ArticlePrints.f
  refine Ev.bind (to15F xs l) ?_
  have hb : (l.take 3000).length ≤ 3000 := by rw [List.length_take]; omega
  have hlen : ((xs.take 70).map fldOf).length ≤ 70 := by rw [List.length_map, List.length_take]; omega
  have hsm : ∀ f ∈ (xs.take 70).map fldOf, f.name.length ≤ 1100000 ∧ f.body.length ≤ 1100000 := by
    intro f hf
    obtain ⟨x, hx', rfl⟩ := List.mem_map.1 hf
    have h := hx x (List.mem_of_mem_take hx')
    have e0 : x.f0.data.toList.length = x.f0.size := by simp
    have e1 : x.f1.data.toList.length = x.f1.size := by simp
    unfold fldOf
    simp only [e0, e1]
    exact h
  rw [← rOf_fld]
  generalize (xs.take 70).map fldOf = fs at *
  generalize l.take 3000 = b at *
  have hbk := backF (fs.map toR) (by rw [List.length_map]; omega) (mkS b)
  rw [sBack_r] at hbk
  refine Ev.bind hbk (Ev.bind (aprintF fs hsm b (by omega)) (Ev.bind (refPrint15 fs hsm b (by omega)) (Ev.bind (a := true) (Ev.const rfl) (Ev.ite_pos rfl (Ev.ite_pos rfl (Ev.ite_pos rfl ?_))))))
  have hck : Ev (fun k => PC.article_Article_Check.f k (fs.map toS) (mkS b)) (apP fs b).2 := by
    unfold PC.article_Article_Check.f
    exact Ev.bind (aprintF fs hsm b (by omega)) (Ev.const rfl)
  refine Ev.bind hck ?_
  refine Ev.next ?_
  simp only [PL.bulletinlaw15_ArticlePrints.j0]
  refine Ev.ite_neg (by simp) ?_
  by_cases h0 : (apP fs b).2 = 0
  · obtain ⟨h6, hap⟩ := parse_printed fs b h0
    have hpz := aparseF (apP fs b).1 (by omega)
    rw [hap] at hpz
    refine Ev.bind hpz (Ev.ite_pos h0 (Ev.ite_pos rfl (Ev.ite_pos rfl ?_)))
    exact Ev.bind (same15 fs (by omega) _) (Ev.const rfl)
  · have hlen5 : (apP fs b).1.length ≤ 900000 := by
      have hps := printP_small fs
      unfold apP
      split
      · simp
      · split
        · simp
        · split
          · simp
          · simp; omega
    exact Ev.bind (aparseF _ hlen5) (Ev.ite_neg h0 (Ev.const rfl))
end Go.Proofs.YtfeciafdioepiaaGreatDoor
namespace Go.Proofs.YtfeciafdioepiaaGreatDoor.articlePrints
open Go.ChangeShapes Go.WideShapes Go.ChangeAt Go.RowKit
open Go.ChangeMaps (open_string shut_string)
set_option linter.unusedVariables false
theorem own : ownKnob Tryz.prog.godebug = none := by kernel_rfl
theorem laidOut : laidOutB Tryz.prog = true := by kernel_rfl
theorem wit (os : Os) : laidMetH Tryz.prog Rows.articlePrintsUptoRow.laid ((World.laidAll Tryz.prog os Rows.articlePrintsUptoRow.laid).forCall (fun _ _ => 0) ⟨#[], #[.agg #[.slice none 0 0, .string ByteArray.empty]], []⟩).memory := by
  rw [MakeChecks.laidMetH_plain _ _ _ (by kernel_rfl)]; exact laidMet_laidAll _ (by kernel_rfl) (by kernel_rfl)
theorem wok (os : Os) : Input.okWideB Tryz.prog ((World.laidAll Tryz.prog os Rows.articlePrintsUptoRow.laid).forCall (fun _ _ => 0) ⟨#[], #[.agg #[.slice none 0 0, .string ByteArray.empty]], []⟩) 7 ⟨#[], #[.agg #[.slice none 0 0, .string ByteArray.empty]], []⟩ = true := by kernel_rfl
theorem reads (os : Os) {H : Type} (enc : TypeId × Value → H) : ∃ places, DataW.whole enc Tryz.prog ((World.laidAll Tryz.prog os Rows.articlePrintsUptoRow.laid).forCall (fun _ _ => 0) ⟨#[], #[.agg #[.slice none 0 0, .string ByteArray.empty]], []⟩).memory Tryz.f7.params.toList Rows.articlePrintsSpec.vars false #[Value.agg #[.slice none 0 0, .string ByteArray.empty]].toList 8 = some ([.agg [.nil, .lit (.string [])]], [], places) :=
  ⟨[], by kernel_rfl⟩
theorem bulk_bound {H : Type} {d : DataW H} (hk : Rows.uptoSmall H [d] = true) : Rows.uptoBulk d ≤ 1048576 := by
  have h := of_decide_eq_true hk
  simp only [Rows.uptoBulkAll] at h
  exact h
set_option maxRecDepth 100000 in
theorem lifted (os : Os) (started : os.Started) (H : Type) (enc : TypeId × Value → H) (F : Stop.Interp) :
    ReturnsInHanded {} Tryz.checked os 7 .any ((Rows.OpenSpec.upto Rows.articlePrintsSpec).preRow enc Tryz.prog Tryz.f7 Rows.articlePrintsUptoRow.domain false Rows.articlePrintsUptoRow.laid) (((Rows.OpenSpec.upto Rows.articlePrintsSpec).at F).post enc Tryz.prog Tryz.f7 false true false false) := by
  obtain ⟨places, hx⟩ := reads os enc
  refine returnsInHanded_of_row (C := Tryz.checked) (s := Rows.OpenSpec.upto Rows.articlePrintsSpec) own started (by kernel_rfl) Tryz.func7
    ⟨World.laidAll Tryz.prog os Rows.articlePrintsUptoRow.laid, fun _ _ => 0, ⟨#[], #[.agg #[.slice none 0 0, .string ByteArray.empty]], []⟩, World.laidAll_os _ _ _, World.shaped_of_ZipB (by kernel_rfl) (by kernel_rfl), (Input.okWide_of_okWideB (base := 0) (wok os)).1, (Input.okWide_of_okWideB (wok os)).2,
      OpenSpec.preRow_of_cond 8 hx (by kernel_rfl) (fun k hk => by cases hk; kernel_rfl) (by kernel_rfl) (by have h := wit os; rw [MakeChecks.laidMetH_plain _ _ _ (by kernel_rfl)] at h; exact h), by
        simp only [Assume.holds]
        exact ⟨by simp, by simp, by simp, by simp, by simp⟩⟩ ?_
  intro W base args ds gs before hval0 hW _ hcond hsz0 hL hsh _
  have hval : ∀ (j : Nat) t v, Tryz.f7.params[j]? = some t → args[j]? = some v → Value.okWide Tryz.prog W .any base t v := hval0
  have hW' := hW
  obtain ⟨p, q, hA0, hV, rfl, hfz, hnd⟩ := hW
  have hA : DataW.TrodAll enc Tryz.prog W 0 (fun _ => true) true Tryz.f7.params.toList args.toList ds p := hA0
  rw [Tryz.params7] at hA hval
  obtain ⟨v0, vs0, d0, ds0, p0, q0, hargs, rfl, rfl, h0, r0⟩ := trodAll_cons hA
  obtain ⟨rfl, rfl, rfl⟩ := trodAll_nil r0
  obtain rfl : args = #[v0] := by cases args; simp_all
  obtain ⟨rfl, rfl⟩ := trodVars_none hV
  have k0 := h0
  have lt0 : ∀ x ∈ p0, x.block < W.heap.size := by obtain ⟨m, hm⟩ := k0; exact DataW.trod_lt m _ _ _ hm
  have hB : Rows.uptoBulk d0 ≤ 1048576 := bulk_bound (hcond _ rfl)
  obtain ⟨A0, c0, l0, b0, rfl, hC0, hc0, hz0⟩ := Go.Proofs.YtfeciafdioepiaaGreatDoor.open_article (hval 0 25 v0 rfl rfl) h0
  obtain ⟨k, hk⟩ := Prints_pure l0 (fun x hx => ⟨Nat.le_trans (hz0 x hx).1 (Nat.le_trans hB (by decide)), Nat.le_trans (hz0 x hx).2 (Nat.le_trans hB (by decide))⟩) b0
  clear hA0 hval0 hsz0
  refine (PL.bulletinlaw15_ArticlePrints.calls k A0 c0 l0 b0 true W (Tryz.laysM143.s1_3 W hsh) hC0 hc0 hk).mono ?_
  rintro e W' ⟨rfl, bel⟩
  exact ⟨_, rfl, _, _, _, [], _, [], hW', trodAll_mk1 (shut_bool Tryz.underlying4 _), (trodAll_cons_mk (Below.trod laidOut (by kernel_rfl) (of_decide_eq_true (by kernel_rfl)) k0 bel lt0) trodAll_mk0), rfl, bel.frame _, fun h => by cases h⟩
theorem row_holds : Rows.ArticlePrintsUptoSaid :=
  OpenClaim.holds_of_cond 7 Tryz.f7 rfl rfl rfl rfl rfl rfl rfl ⟨rfl, rfl, rfl, rfl, rfl⟩ rfl rfl rfl rfl rfl (by kernel_rfl) Tryz.func7 (by kernel_rfl)
    (of_decide_eq_true (by kernel_rfl)) (by unfold Func.isWrapper; first | (rw [if_pos (by decide +kernel)]; kernel_rfl) | (rw [if_neg (by decide +kernel)]; exact ⟨rfl, rfl⟩))
    (fun os started H enc _ F => by rw [OpenClaim.pre_eq_preRow]; exact lifted os started H enc F)
theorem card_holds : Rows.ArticlePrintsUptoCardSaid :=
  Claim7.holds_tied_plain_at .later [] [.data, .pinned] true (true, "0ed969f1a3953f9b426fc905d95e5da96efd084e39c94fceb3821d79c3635a2d") false row_holds (fun _ h => by cases h) (by kernel_rfl) (fun _ h => by cases h) articlePrintsUpto_row_tie rfl ⟨rfl, rfl⟩ (by kernel_rfl) rfl
    (fun f fn hf hfn => by
      obtain rfl : f = 7 := Option.some.inj ((show Tryz.prog.funcNamed "bulletin/bulletinlaw15.ArticlePrints" = some 7 by kernel_rfl).symm.trans hf) |>.symm
      obtain rfl : fn = Tryz.f7 := (Option.some.inj (Tryz.func7.symm.trans hfn)).symm
      exact ⟨by kernel_rfl, fun j t ht => by
        rw [Tryz.params7] at ht
        have hm : t ∈ [25] := by simpa using Array.mem_of_getElem? ht
        have hall : ([25].all fun u => !Tryz.prog.wantsStandIn u) = true := by kernel_rfl
        exact (show Tryz.prog.wantsStandIn t = false by simpa using List.all_eq_true.1 hall t hm)⟩)
    (by kernel_rfl)
#print axioms card_holds
end Go.Proofs.YtfeciafdioepiaaGreatDoor.articlePrints
namespace Go.Proofs.YtfeciafdioepiaaGreatDoor
/-- The card, under a short name, for the claim. -/
theorem articlePrints_holds : Rows.ArticlePrintsUptoCardSaid := articlePrints.card_holds
end Go.Proofs.YtfeciafdioepiaaGreatDoor
