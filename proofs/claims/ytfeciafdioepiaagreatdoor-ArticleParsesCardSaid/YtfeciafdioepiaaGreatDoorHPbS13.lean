/- Merged texts: P4, P5, P6, P7, P8, P9; Plain: the law of the canonical texts.; Plain laws: the reference's line ends.; Plain laws: the reference's code points (lead, Begins, First, All, bad).; Plain laws: the reference's lines. -/
import Derived.Test.YtfeciafdioepiaaGreatDoorHPbS12
import Derived.Test.YtfeciafdioepiaaGreatDoorHPbS7
import Derived.Test.YtfeciafdioepiaaGreatDoorHPbS2
import Derived.Test.YtfeciafdioepiaaGreatDoorHPbS6
import Derived.Test.YtfeciafdioepiaaGreatDoorHPbS5
import Derived.Test.YtfeciafdioepiaaGreatDoorHPbS9
import Derived.Test.YtfeciafdioepiaaGreatDoorHPbS10
set_option linter.unusedVariables false
set_option linter.unusedSimpArgs false
/- Plain: Of, To, Same; the reference's parser against the list parser. -/
namespace Go.Proofs.YtfeciafdioepiaaGreatDoor
open Go.RowKit Go.Proofs Go.Proofs.YtfeciafdioepiaaGreatDoorW.PrintWords Go.Proofs.YtfeciafdioepiaaGreatDoor.PA

/-! ### add -/
/-- Words appended to a body. -/
def addB : List UInt8 → List (List UInt8) → List UInt8
  | b, [] => b
  | b, x :: xs => addB (if b = [] then x else b ++ [32] ++ x) xs
/-- Where the first word that is too long begins. -/
def longAt (line : List UInt8) : Nat → List (List UInt8) → Option Nat
  | _, [] => none
  | i, x :: xs => if 900 < x.length then some (spanA isBlank line i) else longAt line (spanA isBlank line i + x.length) xs
/-- The text up to an offset. -/
theorem take_get (text : List UInt8) (e i : Nat) (h : i < e) (he : e ≤ text.length) : (text.take e)[i]'(by rw [List.length_take]; omega) = text[i] := by
  rw [List.getElem_take]
theorem add_scan (text : List UInt8) (hl : text.length ≤ 1100000) (e : Nat) (he : e ≤ text.length) (b : List UInt8) (i : Nat) (hi : i < e) (R : ByteArray × Int)
    (hj : Ev (fun k => bulletinref09_add.j2 k (mkS b) (mkS text) (e : Int) (i : Int) ((spanA (fun c => !isBlank c) (text.take e) i : Nat) : Int)) R) :
    ∀ d j : Nat, e - j = d → i ≤ j → j ≤ e → spanA (fun c => !isBlank c) (text.take e) j = spanA (fun c => !isBlank c) (text.take e) i →
    Ev (fun k => bulletinref09_add.l1 k (mkS b) (mkS text) (e : Int) (i : Int) (j : Int)) R := by
  have hs := mkS_size text
  have hLl : (text.take e).length = e := by rw [List.length_take]; omega
  have Hj := Lib.hid hj
  clear hj
  intro d
  induction d with
  | zero =>
    intro j hd hij hje hsp
    have Hsp := Lib.hid hsp
    clear hsp
    refine Ev.next ?_
    simp only [bulletinref09_add.l1]
    refine Ev.ite_neg (by omega) ?_
    have hst := spanA_stop (p := fun c => !isBlank c) (l := text.take e) (i := j) (by omega)
    have hj := Hj.out
    rw [← Hsp.out, hst] at hj
    exact hj
  | succ d ih =>
    intro j hd hij hje hsp
    have Hsp := Lib.hid hsp
    clear hsp
    have hlt : j < e := by omega
    have h1 : e - (j + 1) = d := by omega
    have h2 : i ≤ j + 1 := by omega
    have h3 : j + 1 ≤ e := by omega
    have h4 : j < (text.take e).length := by omega
    have h5 : j < text.length := by omega
    have hw := wrap_nat j (by omega)
    refine Ev.next ?_
    simp only [bulletinref09_add.l1]
    rw [bt_mk text j h5, rBlankF, hw]
    clear hw
    simp only [Option.bind_some]
    refine Ev.ite_pos (by omega) (Ev.ite_pos (by omega) (Ev.ite_pos (by omega) ?_))
    have hg := take_get text e j hlt he
    by_cases hb : isBlank text[j] = true
    · refine Ev.ite_pos hb ?_
      have hno := spanA_no (p := fun c => !isBlank c) (l := text.take e) h4 (by rw [hg]; simp [hb])
      have hj := Hj.out
      rw [← Hsp.out, hno] at hj
      exact hj
    · refine Ev.ite_neg hb (ih (j + 1) h1 h2 h3 ?_)
      rw [← Hsp.out]
      exact (spanA_yes (p := fun c => !isBlank c) (l := text.take e) h4 (by rw [hg]; simpa using hb)).symm
theorem addLoop (text : List UInt8) (hl : text.length ≤ 1100000) (e : Nat) (he : e ≤ text.length) : ∀ d i : Nat, e - i ≤ d → i ≤ e → ∀ b : List UInt8, b.length ≤ 2000000 + 2 * i →
    (longAt (text.take e) i (wordsL ((text.take e).drop i)) = none → Ev (fun k => bulletinref09_add.l0 k (mkS b) (mkS text) (e : Int) (i : Int)) (mkS (addB b (wordsL ((text.take e).drop i))), -1)) ∧
    (∀ p : Nat, longAt (text.take e) i (wordsL ((text.take e).drop i)) = some p → ∃ bb : ByteArray, Ev (fun k => bulletinref09_add.l0 k (mkS b) (mkS text) (e : Int) (i : Int)) (bb, (p : Int))) := by
  have hs := mkS_size text
  have hLl : (text.take e).length = e := by rw [List.length_take]; omega
  intro d
  induction d with
  | zero =>
    intro i hd hi b hb
    have hie : i = e := by omega
    have hw0 : wordsL ((text.take e).drop i) = [] := words_end (by omega)
    rw [hw0]
    refine ⟨fun _ => ?_, fun p hp => by cases hp⟩
    refine Ev.next ?_
    simp only [bulletinref09_add.l0]
    exact Ev.ite_neg (by omega) (Ev.const rfl)
  | succ d ih =>
    intro i hd hi b hb
    by_cases hie : i = e
    · have hw0 : wordsL ((text.take e).drop i) = [] := words_end (by omega)
      rw [hw0]
      refine ⟨fun _ => ?_, fun p hp => by cases hp⟩
      refine Ev.next ?_
      simp only [bulletinref09_add.l0]
      exact Ev.ite_neg (by omega) (Ev.const rfl)
    have hlt : i < e := by omega
    have hit : i < text.length := by omega
    have hiL : i < (text.take e).length := by omega
    have hg := take_get text e i hlt he
    by_cases hbl : isBlank text[i] = true
    · have hsp := spanA_yes (p := isBlank) (l := text.take e) (i := i) hiL (by rw [hg]; exact hbl)
      have hww : wordsL ((text.take e).drop i) = wordsL ((text.take e).drop (i + 1)) := by rw [← words_at, hsp, words_at]
      have hla : ∀ ws, longAt (text.take e) i ws = longAt (text.take e) (i + 1) ws := by
        intro ws
        cases ws with
        | nil => rfl
        | cons x xs => unfold longAt; rw [hsp]
      clear hsp
      obtain ⟨i1, i2⟩ := ih (i + 1) (by omega) (by omega) b (by omega)
      rw [hww, hla]
      have hstep : ∀ R, Ev (fun k => bulletinref09_add.l0 k (mkS b) (mkS text) (e : Int) ((i + 1 : Nat) : Int)) R → Ev (fun k => bulletinref09_add.l0 k (mkS b) (mkS text) (e : Int) (i : Int)) R := by
        intro R hR
        have hw := wrap_nat i (by omega)
        refine Ev.next ?_
        simp only [bulletinref09_add.l0]
        rw [bt_mk text i hit, rBlankF, hw]
        clear hw
        simp only [Option.bind_some]
        exact Ev.ite_pos (by omega) (Ev.ite_pos (by omega) (Ev.ite_pos (by omega) (Ev.ite_pos hbl hR)))
      exact ⟨fun h => hstep _ (i1 h), fun p hp => by obtain ⟨bb, hbb⟩ := i2 p hp; exact ⟨bb, hstep _ hbb⟩⟩
    · have hbf : isBlank (text.take e)[i] = false := by rw [hg]; simpa using hbl
      have hnx := words_next (l := text.take e) (i := i) hiL hbf
      have hpos := spanA_pos (l := text.take e) (i := i) hiL hbf
      have hsa := (spanA_le (p := fun c => !isBlank c) (l := text.take e) (i := i) (Nat.le_of_lt hiL)).2
      have Hsi := Lib.hid (spanA_no (p := isBlank) (l := text.take e) (i := i) hiL hbf)
      have hscan := add_scan text hl e he b i hlt
      generalize hq : spanA (fun c => !isBlank c) (text.take e) i = q at *
      have Hq := Lib.hid hq
      clear hq
      have hx : ((text.take e).drop i).take (q - i) = (text.drop i).take (q - i) := by
        rw [List.drop_take, List.take_take]; congr 1; omega
      have hxl : (((text.take e).drop i).take (q - i)).length = q - i := by rw [List.length_take, List.length_drop]; omega
      rw [hnx]
      have hla : ∀ xs, longAt (text.take e) i (((text.take e).drop i).take (q - i) :: xs) = if 900 < q - i then some i else longAt (text.take e) q xs := by
        intro xs
        show (if 900 < (((text.take e).drop i).take (q - i)).length then some (spanA isBlank (text.take e) i) else longAt (text.take e) (spanA isBlank (text.take e) i + (((text.take e).drop i).take (q - i)).length) xs) = _
        rw [hxl, Hsi.out, show i + (q - i) = q by omega]
      rw [hla]
      have Hwr := Lib.hid (show wrap64 ((q : Int) - (i : Int)) = ((q - i : Nat) : Int) by unfold wrap64; omega)
      have hstep : ∀ R, Ev (fun k => bulletinref09_add.j2 k (mkS b) (mkS text) (e : Int) (i : Int) (q : Int)) R → Ev (fun k => bulletinref09_add.l0 k (mkS b) (mkS text) (e : Int) (i : Int)) R := by
        intro R hR
        refine Ev.next ?_
        simp only [bulletinref09_add.l0]
        rw [bt_mk text i hit, rBlankF]
        simp only [Option.bind_some]
        exact Ev.ite_pos (by omega) (Ev.ite_pos (by omega) (Ev.ite_pos (by omega) (Ev.ite_neg hbl (hscan R hR _ i rfl (by omega) (by omega) Hq.out))))
      by_cases h9 : 900 < q - i
      · rw [if_pos h9]
        refine ⟨fun h => (by cases h), fun p hp => ⟨mkS b, hstep _ ?_⟩⟩
        injection hp with hp
        subst hp
        refine Ev.next ?_
        simp only [bulletinref09_add.j2]
        rw [Hwr.out]
        exact Ev.ite_pos (by omega) (Ev.const rfl)
      · rw [if_neg h9]
        have hext : (mkS text).extract ((i : Int)).toNat ((q : Int)).toNat = mkS (((text.take e).drop i).take (q - i)) := by
          rw [Int.toNat_natCast, Int.toNat_natCast, extract_mk, mkS_toList, hx]
        have hnext : ∀ R, Ev (fun k => bulletinref09_add.l0 k (mkS (if b = [] then ((text.take e).drop i).take (q - i) else b ++ [32] ++ ((text.take e).drop i).take (q - i))) (mkS text) (e : Int) (q : Int)) R →
            Ev (fun k => bulletinref09_add.l0 k (mkS b) (mkS text) (e : Int) (i : Int)) R := by
          intro R hR
          refine hstep R (Ev.next ?_)
          simp only [bulletinref09_add.j2]
          rw [Hwr.out, hext, toList_mk]
          refine Ev.ite_neg (by omega) ?_
          by_cases hb0 : b = []
          · subst hb0
            rw [if_pos rfl] at hR
            refine Ev.ite_pos rfl (Ev.ite_pos (by omega) (Ev.ite_pos (by omega) (Ev.ite_pos (by omega) ?_)))
            have h6 : (mkS []).size + (mkS (((text.take e).drop i).take (q - i))).size ≤ 9223372036854775807 := by rw [mkS_size, mkS_size, hxl]; simp; omega
            refine Ev.ite_pos h6 ?_
            rw [mkS_append, List.nil_append]
            exact hR
          · rw [if_neg hb0] at hR
            have h7 : (mkS b).size + 1 ≤ 9223372036854775807 := by rw [mkS_size]; omega
            have h6 : (mkS (b ++ [32])).size + (mkS (((text.take e).drop i).take (q - i))).size ≤ 9223372036854775807 := by rw [mkS_size, mkS_size, hxl, List.length_append, List.length_singleton]; omega
            refine Ev.ite_neg hb0 (Ev.ite_pos h7 (Ev.ite_pos (by omega) (Ev.ite_pos (by omega) (Ev.ite_pos (by omega) ?_))))
            rw [mkS_one, mkS_append]
            refine Ev.ite_pos h6 ?_
            rw [mkS_append]
            exact hR
        obtain ⟨i1, i2⟩ := ih q (by omega) (by omega) (if b = [] then ((text.take e).drop i).take (q - i) else b ++ [32] ++ ((text.take e).drop i).take (q - i)) (by
          split
          · rw [hxl]; omega
          · simp only [List.length_append, hxl, List.length_singleton]; omega)
        exact ⟨fun h => hnext _ (i1 h), fun p hp => by obtain ⟨bb, hbb⟩ := i2 p hp; exact ⟨bb, hnext _ hbb⟩⟩
end Go.Proofs.YtfeciafdioepiaaGreatDoor

/- Plain: one line of the reference's parser and of the list parser. -/
namespace Go.Proofs.YtfeciafdioepiaaGreatDoor
open Go.RowKit Go.Proofs Go.Proofs.YtfeciafdioepiaaGreatDoorW.PrintWords Go.Proofs.YtfeciafdioepiaaGreatDoor.PA

/-! ### words and joins -/
def wordOk (x : List UInt8) : Prop := x ≠ [] ∧ ∀ c ∈ x, isBlank c = false
theorem wordsGo_ok (l : List UInt8) : ∀ cur, (∀ c ∈ cur, isBlank c = false) → ∀ x ∈ wordsGo l cur, wordOk x := by
  induction l with
  | nil =>
    intro cur hc x hx
    unfold wordsGo at hx
    split at hx
    · simp at hx
    · rename_i h; simp at hx; subst hx; exact ⟨h, hc⟩
  | cons c l ih =>
    intro cur hc x hx
    unfold wordsGo at hx
    by_cases hb : isBlank c = true
    · rw [if_pos hb] at hx
      by_cases h0 : cur = []
      · rw [if_pos h0] at hx; exact ih [] (by simp) x hx
      · rw [if_neg h0] at hx
        rcases List.mem_cons.1 hx with rfl | hx
        · exact ⟨h0, hc⟩
        · exact ih [] (by simp) x hx
    · rw [if_neg hb] at hx
      refine ih (cur ++ [c]) (fun d hd => ?_) x hx
      rcases List.mem_append.1 hd with h | h
      · exact hc d h
      · simp at h; subst h; simpa using hb
theorem wordsL_ok (l : List UInt8) : ∀ x ∈ wordsL l, wordOk x := wordsGo_ok l [] (by simp)
theorem wordsGo_app (x : List UInt8) (hx : ∀ c ∈ x, isBlank c = false) (r : List UInt8) : ∀ cur, wordsGo (x ++ r) cur = wordsGo r (cur ++ x) := by
  induction x with
  | nil => intro cur; simp
  | cons c x ih =>
    intro cur
    rw [List.cons_append]
    conv => lhs; unfold wordsGo
    have := hx c (by simp)
    rw [if_neg (by simp [this]), ih (fun d hd => hx d (by simp [hd])), List.append_assoc]; rfl
theorem words_join : ∀ (ws : List (List UInt8)), (∀ x ∈ ws, wordOk x) → wordsL (joinW ws) = ws
  | [], _ => rfl
  | [x], h => by
    have hx := h x (by simp)
    show wordsGo (joinW [x]) [] = [x]
    have : joinW [x] = x ++ [] := by simp [joinW, List.intercalate]
    rw [this, wordsGo_app x hx.2]
    simp [wordsGo, hx.1]
  | x :: y :: ws, h => by
    have hx := h x (by simp)
    have ih := words_join (y :: ws) (fun z hz => h z (by simp at hz ⊢; exact Or.inr hz))
    have : joinW (x :: y :: ws) = x ++ (32 :: joinW (y :: ws)) := by simp [joinW, List.intercalate_cons_cons]
    rw [this]
    unfold wordsL
    rw [wordsGo_app x hx.2, List.nil_append]
    conv => lhs; unfold wordsGo
    rw [if_pos (by decide), if_neg hx.1]
    congr 1
theorem joinW_ne (ws : List (List UInt8)) (h : ∀ x ∈ ws, x ≠ []) (h0 : ws ≠ []) : joinW ws ≠ [] := by
  match ws, h0 with
  | [x], _ => intro e; exact h x (by simp) (by simpa [joinW, List.intercalate] using e)
  | x :: y :: t, _ =>
    have : joinW (x :: y :: t) = x ++ (32 :: joinW (y :: t)) := by simp [joinW, List.intercalate_cons_cons]
    rw [this]; simp
theorem addB_join : ∀ (ws W0 : List (List UInt8)), (∀ x ∈ W0, x ≠ []) → (∀ x ∈ ws, x ≠ []) → addB (joinW W0) ws = joinW (W0 ++ ws)
  | [], W0, _, _ => by simp [addB]
  | x :: xs, W0, h0, h => by
    unfold addB
    have hx := h x (by simp)
    have e : (if joinW W0 = [] then x else joinW W0 ++ [32] ++ x) = joinW (W0 ++ [x]) := by
      by_cases hw : W0 = []
      · subst hw; rw [if_pos (by rfl)]; simp [joinW, List.intercalate]
      · rw [if_neg (joinW_ne W0 h0 hw), joinW_snoc W0 x hw]; simp
    rw [e, addB_join xs (W0 ++ [x]) (fun y hy => by rcases List.mem_append.1 hy with h' | h'; exact h0 y h'; simp at h'; subst h'; exact hx) (fun y hy => h y (by simp [hy])), List.append_assoc]; rfl

/-! ### one line -/
def bodyE (pos : Nat) (fs : List Fld) (line : List UInt8) (i : Nat) : (Int × Int) ⊕ (List Fld × Nat) :=
  match longAt line i (wordsL (line.drop i)) with
  | some p => .inl (((pos + p : Nat) : Int), 5)
  | none => if 8192 < (joinW (wordsL (lastBody fs) ++ wordsL (line.drop i))).length then .inl ((pos : Int), 5) else .inr (setBody fs (joinW (wordsL (lastBody fs) ++ wordsL (line.drop i))), pos + (line.length + 1))
def lineE (text : List UInt8) (pos : Nat) (fs : List Fld) (line : List UInt8) : (Int × Int) ⊕ (List Fld × Nat) :=
  if contP line = true then (if fs = [] then .inl ((pos : Int), 3) else bodyE pos fs line 0)
  else if colonP line = line.length then .inl ((pos : Int), 3)
  else if validNameL (line.take (colonP line)) = false then .inl ((pos : Int), 12)
  else if fs.length = 64 then .inl ((pos : Int), 9)
  else bodyE pos (fs ++ [⟨line.take (colonP line), []⟩]) line (colonP line + 1)
def stepP (text : List UInt8) (pos : Nat) (fs : List Fld) : (Int × Int) ⊕ (List Fld × Nat) :=
  if spanL notNl (text.drop pos) = (text.drop pos).length then .inl ((text.length : Int), 4)
  else if 998 < spanL notNl (text.drop pos) then .inl (((pos + 998 : Nat) : Int), 5)
  else if spanL okByte ((text.drop pos).take (spanL notNl (text.drop pos))) < spanL notNl (text.drop pos) then .inl (((pos + spanL okByte ((text.drop pos).take (spanL notNl (text.drop pos))) : Nat) : Int), 6)
  else lineE text pos fs ((text.drop pos).take (spanL notNl (text.drop pos)))

theorem wordsP_failed : ∀ (ws : List (List UInt8)) (s : PSt) (line : List UInt8) (i : Nat), s.failed ≠ 0 → wordsP s line i ws = s
  | [], _, _, _, _ => rfl
  | x :: xs, s, line, i, h => by
    rw [wordsP_cons]
    split
    · rw [failP_ne _ _ _ h]; exact wordsP_failed xs s line _ h
    · exact wordsP_failed xs s line _ h
theorem wordsP_long : ∀ (ws : List (List UInt8)) (s : PSt) (line : List UInt8) (i : Nat), s.failed = 0 → wordsP s line i ws = match longAt line i ws with
    | some p => failP s ((s.pos + p : Nat) : Int) 5
    | none => s
  | [], _, _, _, _ => rfl
  | x :: xs, s, line, i, h => by
    rw [wordsP_cons]
    unfold longAt
    by_cases hx : 900 < x.length
    · rw [if_pos hx, if_pos hx]
      rw [wordsP_failed xs _ line _ (failP_failed0 (by decide))]
      simp
    · rw [if_neg hx, if_neg hx]
      exact wordsP_long xs s line _ h
/-- What one step of the list parser does. -/
def Does (s : PSt) (p0 : Int) : (Int × Int) ⊕ (List Fld × Nat) → Prop
  | .inl (pl, e) => s.failed = e ∧ s.place = pl ∧ e ≠ 0
  | .inr (fs, pos) => s = ⟨pos, fs, p0, 0⟩
theorem failP_does {s : PSt} {p e p0 : Int} (h : s.failed = 0) (he : e ≠ 0) : (failP s p e).failed = e ∧ (failP s p e).place = p ∧ e ≠ 0 := by
  unfold failP; rw [if_pos h]; exact ⟨rfl, rfl, he⟩
theorem bodyP_does (pos : Nat) (fs : List Fld) (p0 : Int) (line : List UInt8) (i n : Nat) (hn : n = line.length) :
    Does { bodyP ⟨pos, fs, p0, 0⟩ line i with pos := (bodyP ⟨pos, fs, p0, 0⟩ line i).pos + (n + 1) } p0 (bodyE pos fs line i) := by
  unfold bodyP bodyE
  dsimp only
  have hw := wordsP_long (wordsL (line.drop i)) ⟨pos, fs, p0, 0⟩ line i rfl
  rw [hw]
  cases hl : longAt line i (wordsL (line.drop i)) with
  | some p =>
    dsimp only
    have hf : (failP (⟨pos, fs, p0, 0⟩ : PSt) (((pos + p : Nat)) : Int) 5) = ⟨pos, fs, ((pos + p : Nat) : Int), 5⟩ := by unfold failP; rw [if_pos rfl]
    rw [hf]
    dsimp only
    split
    · rw [failP_ne _ _ _ (by show (5 : Int) ≠ 0; decide)]; exact ⟨rfl, rfl, by decide⟩
    · exact ⟨rfl, rfl, by decide⟩
  | none =>
    dsimp only
    split
    · exact failP_does (s := ⟨pos, setBody fs (joinW (wordsL (lastBody fs) ++ wordsL (line.drop i))), p0, 0⟩) (p := (pos : Int)) (e := 5) (p0 := p0) rfl (by decide)
    · show _ = _
      rw [hn]
theorem oneP_does (text : List UInt8) (pos : Nat) (fs : List Fld) (p0 : Int) : Does (oneP text ⟨pos, fs, p0, 0⟩) p0 (stepP text pos fs) := by
  unfold oneP stepP lineP
  dsimp only
  have hle := spanL_le notNl (text.drop pos)
  by_cases h1 : spanL notNl (text.drop pos) = (text.drop pos).length
  · rw [if_pos h1, if_pos h1]
    dsimp only
    rw [if_pos (failP_failed0 (by decide))]
    exact failP_does (s := ⟨pos, fs, p0, 0⟩) (p := (text.length : Int)) (e := 4) (p0 := p0) rfl (by decide)
  · rw [if_neg h1, if_neg h1]
    dsimp only
    generalize hn : spanL notNl (text.drop pos) = n at *
    have hll : ((text.drop pos).take n).length = n := by rw [List.length_take]; omega
    by_cases h2 : 998 < n
    · rw [if_pos h2, if_pos h2]
      have hf : (failP (⟨pos, fs, p0, 0⟩ : PSt) ((pos : Int) + 998) 5) = ⟨pos, fs, ((pos + 998 : Nat) : Int), 5⟩ := by unfold failP; rw [if_pos rfl]; simp
      rw [hf]
      split
      · rw [failP_ne _ _ _ (by show (5 : Int) ≠ 0; decide), if_pos (by show (5 : Int) ≠ 0; decide)]; exact ⟨rfl, rfl, by decide⟩
      · rw [if_pos (by show (5 : Int) ≠ 0; decide)]; exact ⟨rfl, rfl, by decide⟩
    · rw [if_neg h2, if_neg h2]
      by_cases h3 : spanL okByte ((text.drop pos).take n) < n
      · rw [if_pos h3, if_pos h3, if_pos (failP_failed0 (by decide))]
        have := failP_does (s := ⟨pos, fs, p0, 0⟩) (p := (pos : Int) + spanL okByte ((text.drop pos).take n)) (e := 6) (p0 := p0) rfl (by decide)
        simpa [Does] using this
      · rw [if_neg h3, if_neg h3, if_neg (by simp)]
        generalize (text.drop pos).take n = line at *
        unfold switchP lineE
        dsimp only
        by_cases h4 : contP line = true
        · rw [if_pos h4, if_pos h4]
          by_cases h5 : fs = []
          · rw [if_pos h5, if_pos h5]; exact failP_does (s := ⟨pos, fs, p0, 0⟩) (p := (pos : Int)) (e := 3) (p0 := p0) rfl (by decide)
          · rw [if_neg h5, if_neg h5]; exact bodyP_does pos fs p0 line 0 _ rfl
        · rw [if_neg h4, if_neg h4]
          by_cases h5 : colonP line = line.length
          · rw [if_pos h5, if_pos h5]; exact failP_does (s := ⟨pos, fs, p0, 0⟩) (p := (pos : Int)) (e := 3) (p0 := p0) rfl (by decide)
          · rw [if_neg h5, if_neg h5]
            by_cases h6 : validNameL (line.take (colonP line)) = false
            · rw [if_pos h6, if_pos h6]; exact failP_does (s := ⟨pos, fs, p0, 0⟩) (p := (pos : Int)) (e := 12) (p0 := p0) rfl (by decide)
            · rw [if_neg h6, if_neg h6]
              by_cases h7 : fs.length = 64
              · rw [if_pos h7, if_pos h7]; exact failP_does (s := ⟨pos, fs, p0, 0⟩) (p := (pos : Int)) (e := 9) (p0 := p0) rfl (by decide)
              · rw [if_neg h7, if_neg h7]; exact bodyP_does pos _ p0 line _ _ rfl
end Go.Proofs.YtfeciafdioepiaaGreatDoor

/- Plain: the reference's parser does what the list parser does. -/
namespace Go.Proofs.YtfeciafdioepiaaGreatDoor
open Go.RowKit Go.Proofs Go.Proofs.YtfeciafdioepiaaGreatDoorW.PrintWords Go.Proofs.YtfeciafdioepiaaGreatDoor.PA

def toR (f : Fld) : S78 := ⟨mkS f.name, mkS f.body⟩
theorem byte10 (c : UInt8) : ((c.toNat : Int) = 10) ↔ c = 10 := toNat_int c 10 (by omega)
theorem byte58 (c : UInt8) : ((c.toNat : Int) = 58) ↔ c = 58 := toNat_int c 58 (by omega)
abbrev PR := (List S78) × Int × Int

theorem scan_nl (text : List UInt8) (hl : text.length ≤ 65536) (xs : List S78) (pos : Nat) (R : PR) (q : Nat)
    (hj : Ev (fun k => bulletinref09_Parse.j2 k (mkS text) xs (pos : Int) (q : Int)) R) :
    ∀ d j : Nat, text.length - j = d → j ≤ text.length → Hid (spanA notNl text j = q) → Ev (fun k => bulletinref09_Parse.l1 k (mkS text) xs (pos : Int) (j : Int)) R := by
  have hs := mkS_size text
  intro d
  induction d with
  | zero =>
    intro j hd hj2 hsp
    have e := spanA_stop (p := notNl) (l := text) (i := j) (by omega)
    rw [← hsp.out, e] at hj
    refine Ev.next ?_
    simp only [bulletinref09_Parse.l1]
    exact Ev.ite_neg (by omega) hj
  | succ d ih =>
    intro j hd hj2 hsp
    have hlt : j < text.length := by omega
    refine Ev.next ?_
    simp only [bulletinref09_Parse.l1]
    rw [bt_mk text j hlt, wrap_nat j (by omega)]
    refine Ev.ite_pos (by omega) (Ev.ite_pos (by omega) ?_)
    by_cases h10 : text[j] = 10
    · have e := spanA_no (p := notNl) (l := text) (i := j) hlt (by unfold notNl; simp [h10])
      rw [← hsp.out, e] at hj
      exact Ev.ite_pos ((byte10 _).2 h10) hj
    · have e := spanA_yes (p := notNl) (l := text) (i := j) hlt (by unfold notNl; simpa using h10)
      exact Ev.ite_neg (fun h => h10 ((byte10 _).1 h)) (ih (j + 1) (by omega) (by omega) (Lib.hid (e.symm.trans hsp.out)))

/-- The bytes of a line: all of them are allowed. -/
theorem bytes_ok (text : List UInt8) (hl : text.length ≤ 65536) (xs : List S78) (pos e : Nat) (he : e ≤ text.length) (R : PR) :
    ∀ d i : Nat, e - i = d → i ≤ e → Hid (spanA okByte (text.take e) i = e) → ∀ col : Int,
    Ev (fun k => bulletinref09_Parse.l2 k (mkS text) xs (pos : Int) (e : Int) (if 0 ≤ col then col else if spanA notColon (text.take e) i = e then -1 else ((spanA notColon (text.take e) i : Nat) : Int)) (e : Int)) R →
    (0 ≤ col ∨ col = -1) → Ev (fun k => bulletinref09_Parse.l2 k (mkS text) xs (pos : Int) (e : Int) col (i : Int)) R := by
  have hs := mkS_size text
  have hLl : (text.take e).length = e := by rw [List.length_take]; omega
  intro d
  induction d with
  | zero =>
    intro i hd hi hok col hE hc
    obtain rfl : i = e := by omega
    have e1 := spanA_stop (p := notColon) (l := text.take i) (i := i) (by omega)
    rw [e1, if_pos rfl] at hE
    rcases hc with h | h
    · rw [if_pos h] at hE; exact hE
    · subst h; rw [if_neg (by omega)] at hE; exact hE
  | succ d ih =>
    intro i hd hi hok col hE hc
    have hlt : i < e := by omega
    have hit : i < text.length := by omega
    have hiL : i < (text.take e).length := by omega
    have hg := take_get text e i hlt he
    have hb : okByte text[i] = true := by
      rcases Bool.eq_false_or_eq_true (okByte text[i]) with h | h
      · exact h
      · have e1 := spanA_no (p := okByte) (l := text.take e) hiL (by rw [hg]; exact h)
        have e2 := hok.out
        rw [e1] at e2
        omega
    have hok2 : Hid (spanA okByte (text.take e) (i + 1) = e) := Lib.hid ((spanA_yes (p := okByte) (l := text.take e) hiL (by rw [hg]; exact hb)).symm.trans hok.out)
    have hj : Ev (fun k => bulletinref09_Parse.j4 k (mkS text) xs (pos : Int) (e : Int) col (i : Int) false) R := by
      refine Ev.next ?_
      simp only [bulletinref09_Parse.j4]
      rw [bt_mk text i hit, wrap_nat i (by omega)]
      refine Ev.ite_neg (by simp) (Ev.ite_pos (by omega) (Ev.ite_pos (by omega) ?_))
      by_cases h58 : text[i] = 58
      · have e1 := spanA_no (p := notColon) (l := text.take e) hiL (by rw [hg]; unfold notColon; simp [h58])
        refine Ev.ite_pos ((byte58 _).2 h58) ?_
        rcases hc with h | h
        · rw [if_pos h] at hE
          refine Ev.ite_neg (by omega) (ih (i + 1) (by omega) (by omega) hok2 col ?_ (Or.inl h))
          rw [if_pos h]; exact hE
        · subst h
          rw [e1, if_neg (by omega), if_neg (by omega)] at hE
          refine Ev.ite_pos (by omega) (ih (i + 1) (by omega) (by omega) hok2 (i : Int) ?_ (Or.inl (by omega)))
          rw [if_pos (by omega)]; exact hE
      · have e1 := spanA_yes (p := notColon) (l := text.take e) hiL (by rw [hg]; unfold notColon; simpa using h58)
        rw [e1] at hE
        exact Ev.ite_neg (fun h => h58 ((byte58 _).1 h)) (ih (i + 1) (by omega) (by omega) hok2 col hE hc)
    refine Ev.next ?_
    simp only [bulletinref09_Parse.l2]
    rw [bt_mk text i hit, rVisF]
    simp only [Option.bind_some]
    refine Ev.ite_pos (by omega) (Ev.ite_pos (by omega) (Ev.ite_pos (by omega) ?_))
    by_cases hv : visU text[i] = true
    · exact Ev.ite_pos hv hj
    · refine Ev.ite_neg hv ?_
      have hbl : isBlank text[i] = true := by
        unfold okByte at hb; unfold visU at hv
        simp only [Bool.or_eq_true] at hb
        rcases hb with h | h
        · exact absurd h hv
        · exact h
      rw [rBlankF, hbl]
      simp only [Option.bind_some]
      exact hj
/-- .. one is not. -/
theorem bytes_bad (text : List UInt8) (hl : text.length ≤ 65536) (xs : List S78) (pos e : Nat) (he : e ≤ text.length) (q : Nat) (hq : q < e) :
    ∀ d i : Nat, q - i = d → i ≤ q → Hid (spanA okByte (text.take e) i = q) → ∀ col : Int, Ev (fun k => bulletinref09_Parse.l2 k (mkS text) xs (pos : Int) (e : Int) col (i : Int)) (([] : List S78), (q : Int), 6) := by
  have hs := mkS_size text
  have hLl : (text.take e).length = e := by rw [List.length_take]; omega
  intro d
  induction d with
  | zero =>
    intro i hd hi hok col
    obtain rfl : i = q := by omega
    have hit : i < text.length := by omega
    have hiL : i < (text.take e).length := by omega
    have hg := take_get text e i hq he
    have hb : okByte text[i] = false := by
      rcases Bool.eq_false_or_eq_true (okByte text[i]) with h | h
      · have e1 := spanA_yes (p := okByte) (l := text.take e) hiL (by rw [hg]; exact h)
        have e2 := (spanA_le (p := okByte) (l := text.take e) (i := i + 1) (by omega)).1
        have e3 := hok.out
        rw [e1] at e3
        omega
      · exact h
    unfold okByte at hb
    simp only [Bool.or_eq_false_iff] at hb
    have hv : visU text[i] = false := hb.1
    refine Ev.next ?_
    simp only [bulletinref09_Parse.l2]
    rw [bt_mk text i hit, rVisF, rBlankF, hv, hb.2]
    simp only [Option.bind_some]
    refine Ev.ite_pos (by omega) (Ev.ite_pos (by omega) (Ev.ite_pos (by omega) (Ev.ite_neg (by simp) ?_)))
    refine Ev.next ?_
    simp only [bulletinref09_Parse.j4]
    exact Ev.ite_pos (by simp) (Ev.const rfl)
  | succ d ih =>
    intro i hd hi hok col
    have hlt : i < e := by omega
    have hit : i < text.length := by omega
    have hiL : i < (text.take e).length := by omega
    have hg := take_get text e i hlt he
    have hb : okByte text[i] = true := by
      rcases Bool.eq_false_or_eq_true (okByte text[i]) with h | h
      · exact h
      · have e1 := spanA_no (p := okByte) (l := text.take e) hiL (by rw [hg]; exact h)
        have e2 := hok.out
        rw [e1] at e2
        omega
    have hok2 : Hid (spanA okByte (text.take e) (i + 1) = q) := Lib.hid ((spanA_yes (p := okByte) (l := text.take e) hiL (by rw [hg]; exact hb)).symm.trans hok.out)
    have hih := ih (i + 1) (by omega) (by omega) hok2
    have hj : Ev (fun k => bulletinref09_Parse.j4 k (mkS text) xs (pos : Int) (e : Int) col (i : Int) false) (([] : List S78), (q : Int), 6) := by
      refine Ev.next ?_
      simp only [bulletinref09_Parse.j4]
      rw [bt_mk text i hit, wrap_nat i (by omega)]
      refine Ev.ite_neg (by simp) (Ev.ite_pos (by omega) (Ev.ite_pos (by omega) ?_))
      by_cases h58 : text[i] = 58
      · refine Ev.ite_pos ((byte58 _).2 h58) ?_
        by_cases h : col < 0
        · exact Ev.ite_pos h (hih _)
        · exact Ev.ite_neg h (hih _)
      · exact Ev.ite_neg (fun h => h58 ((byte58 _).1 h)) (hih _)
    refine Ev.next ?_
    simp only [bulletinref09_Parse.l2]
    rw [bt_mk text i hit, rVisF]
    simp only [Option.bind_some]
    refine Ev.ite_pos (by omega) (Ev.ite_pos (by omega) (Ev.ite_pos (by omega) ?_))
    by_cases hv : visU text[i] = true
    · exact Ev.ite_pos hv hj
    · refine Ev.ite_neg hv ?_
      have hbl : isBlank text[i] = true := by
        unfold okByte at hb; unfold visU at hv
        simp only [Bool.or_eq_true] at hb
        rcases hb with h | h
        · exact absurd h hv
        · exact h
      rw [rBlankF, hbl]
      simp only [Option.bind_some]
      exact hj

theorem spanA_shift (p : UInt8 → Bool) (L : List UInt8) (pos i : Nat) : spanA p L (pos + i) = pos + spanA p (L.drop pos) i := by
  unfold spanA; rw [List.drop_drop]; omega
theorem longAt_shift (L : List UInt8) (pos : Nat) : ∀ (ws : List (List UInt8)) (i : Nat), longAt L (pos + i) ws = (longAt (L.drop pos) i ws).map (pos + ·)
  | [], _ => rfl
  | x :: xs, i => by
    unfold longAt
    rw [spanA_shift]
    split
    · rfl
    · rw [Nat.add_assoc]; exact longAt_shift L pos xs _
/-- What one step of the reference's parser does. -/
def RefDoes (text : List UInt8) (fs : List Fld) (pos : Nat) (f : Nat → Option PR) : (Int × Int) ⊕ (List Fld × Nat) → Prop
  | .inl (pl, e) => Ev f (([] : List S78), pl, e)
  | .inr (fs', pos') => ∀ R, Ev (fun k => bulletinref09_Parse.l0 k (mkS text) (fs'.map toR) (pos' : Int)) R → Ev f R

theorem body_does (text : List UInt8) (hl : text.length ≤ 65536) (fs : List Fld) (h0 : fs ≠ []) (hfl : fs.length ≤ 64) (hc : joinW (wordsL (lastBody fs)) = lastBody fs) (hb : (lastBody fs).length ≤ 8192) (pos e i : Nat) (he : e < text.length) (hi : pos + i ≤ e) :
    RefDoes text fs pos (fun k => bulletinref09_Parse.j7 k (mkS text) (fs.map toR) (pos : Int) (e : Int) ((pos + i : Nat) : Int)) (bodyE pos fs ((text.take e).drop pos) i) := by
  have hLl : (text.take e).length = e := by rw [List.length_take]; omega
  have hpos := List.length_pos_iff.2 h0
  have hml : (fs.map toR).length = fs.length := List.length_map _
  have hw1 : wrap64 (((fs.map toR).length : Int) - 1) = ((fs.length - 1 : Nat) : Int) := by rw [hml]; unfold wrap64; omega
  have hlast : rd_T78 (fs.map toR) ((fs.length - 1 : Nat) : Int) = toR (fs.getLast h0) := by
    rw [rd25 _ _ (by rw [hml]; omega), List.getElem_map]
    congr 1
    rw [List.getLast_eq_getElem]
  have hlb := lastBody_eq fs h0
  have hbody : (toR (fs.getLast h0)).f1 = mkS (lastBody fs) := by rw [hlb]; rfl
  have hdd : (text.take e).drop (pos + i) = ((text.take e).drop pos).drop i := by rw [List.drop_drop]
  have hadd := addLoop text (by omega) e (by omega) (e - (pos + i)) (pos + i) (by omega) hi (lastBody fs) (by omega)
  rw [hdd, longAt_shift] at hadd
  have hjoin : addB (lastBody fs) (wordsL (((text.take e).drop pos).drop i)) = joinW (wordsL (lastBody fs) ++ wordsL (((text.take e).drop pos).drop i)) := by
    rw [← addB_join _ _ (fun x hx => (wordsL_ok _ x hx).1) (fun x hx => (wordsL_ok _ x hx).1), hc]
  have hlen : ((text.take e).drop pos).length = e - pos := by rw [List.length_drop]; omega
  have hw2 : wrap64 ((e : Int) + 1) = ((pos + ((e - pos) + 1) : Nat) : Int) := by rw [wrap_nat e (by omega)]; congr 1; omega
  have Hw1 := Lib.hid hw1
  have Hw2 := Lib.hid hw2
  have Hlast := Lib.hid hlast
  clear hw1 hw2 hlast hdd
  obtain ⟨ha, hbad⟩ := hadd
  have hstep : ∀ (t : ByteArray × Int) (R : PR), Ev (fun k => bulletinref09_add.f k (mkS (lastBody fs)) (mkS text) ((pos + i : Nat) : Int) (e : Int)) t →
      Ev (fun k => if t.2 ≥ 0 then (some (([] : List S78), t.2, 5)) else (if (t.1.size : Int) > 8192 then (some (([] : List S78), (pos : Int), 5)) else (bulletinref09_Parse.l0 k (mkS text) ((fs.map toR).set (((fs.length - 1 : Nat) : Int)).toNat (⟨(toR (fs.getLast h0)).f0, t.1⟩ : S78)) (((pos + ((e - pos) + 1) : Nat)) : Int)))) R →
      Ev (fun k => bulletinref09_Parse.j7 k (mkS text) (fs.map toR) (pos : Int) (e : Int) ((pos + i : Nat) : Int)) R := by
    intro t R ht hR
    refine Ev.next ?_
    simp only [bulletinref09_Parse.j7]
    rw [Hw1.out, Hlast.out, hbody, Hw2.out, hml]
    refine Ev.ite_pos (by omega) (Ev.ite_pos (by omega) (Ev.bind ht hR))
  unfold bodyE
  cases hla : longAt ((text.take e).drop pos) i (wordsL (((text.take e).drop pos).drop i)) with
  | some p =>
    rw [hla] at hbad
    obtain ⟨bb, hbb⟩ := hbad (pos + p) rfl
    exact hstep _ _ hbb (Ev.ite_pos (by show ((pos + p : Nat) : Int) ≥ 0; omega) (Ev.const rfl))
  | none =>
    rw [hla] at ha
    have ha2 := ha rfl
    rw [hjoin] at ha2
    dsimp only
    split
    · rename_i h8
      refine hstep _ _ ha2 (Ev.ite_neg (by show ¬ ((-1 : Int) ≥ 0); decide) (Ev.ite_pos ?_ (Ev.const rfl)))
      show ((mkS _).size : Int) > 8192
      rw [mkS_size]; omega
    · rename_i h8
      intro R hR
      refine hstep _ R ha2 (Ev.ite_neg (by show ¬ ((-1 : Int) ≥ 0); decide) (Ev.ite_neg ?_ ?_))
      · show ¬ ((mkS _).size : Int) > 8192
        rw [mkS_size]; omega
      · rw [setBody_map toR fs _ h0, hlen] at hR
        rw [Int.toNat_natCast]
        exact hR
end Go.Proofs.YtfeciafdioepiaaGreatDoor

/- Plain: the two parsers agree; the law of the parsing. -/
namespace Go.Proofs.YtfeciafdioepiaaGreatDoor
open Go.RowKit Go.Proofs Go.Proofs.YtfeciafdioepiaaGreatDoorW.PrintWords Go.Proofs.YtfeciafdioepiaaGreatDoor.PA

structure CanP (fs : List Fld) : Prop where
  len : fs.length ≤ 64
  can : joinW (wordsL (lastBody fs)) = lastBody fs
  body : (lastBody fs).length ≤ 8192
theorem lastBody_snoc (fs : List Fld) (f : Fld) : lastBody (fs ++ [f]) = f.body := by unfold lastBody; simp
theorem lastBody_set (fs : List Fld) (h : fs ≠ []) (b : List UInt8) : lastBody (setBody fs b) = b := by
  unfold setBody
  rw [List.getLast?_eq_some_getLast h]
  exact lastBody_snoc _ _
theorem setBody_len (fs : List Fld) (b : List UInt8) : (setBody fs b).length = fs.length := by
  by_cases h : fs = []
  · subst h; rfl
  · have := congrArg List.length (setBody_map id fs b h); simpa using this
theorem bodyE_can {pos : Nat} {fs : List Fld} {line : List UInt8} {i : Nat} {fs' : List Fld} {pos' : Nat} (h0 : fs ≠ []) (hc : CanP fs) (h : bodyE pos fs line i = .inr (fs', pos')) : CanP fs' ∧ pos' = pos + (line.length + 1) := by
  unfold bodyE at h
  split at h
  · cases h
  · split at h
    · cases h
    · rename_i h8
      injection h with h
      injection h with h1 h2
      subst h1 h2
      refine ⟨⟨by rw [setBody_len]; exact hc.len, ?_, ?_⟩, rfl⟩
      · rw [lastBody_set fs h0, words_join _ (fun x hx => by rcases List.mem_append.1 hx with h | h <;> exact wordsL_ok _ x h)]
      · rw [lastBody_set fs h0]; omega
theorem lineE_can {text : List UInt8} {pos : Nat} {fs : List Fld} {line : List UInt8} {fs' : List Fld} {pos' : Nat} (hc : CanP fs) (h : lineE text pos fs line = .inr (fs', pos')) : CanP fs' ∧ pos' = pos + (line.length + 1) := by
  unfold lineE at h
  split at h
  · split at h
    · cases h
    · exact bodyE_can (by assumption) hc h
  · split at h
    · cases h
    · split at h
      · cases h
      · split at h
        · cases h
        · have := hc.len
          exact bodyE_can (by simp) ⟨by simp; omega, by rw [lastBody_snoc]; rfl, by rw [lastBody_snoc]; simp⟩ h
theorem stepP_can {text : List UInt8} {pos : Nat} {fs : List Fld} {fs' : List Fld} {pos' : Nat} (hc : CanP fs) (h : stepP text pos fs = .inr (fs', pos')) : CanP fs' ∧ pos < pos' ∧ pos' ≤ text.length := by
  unfold stepP at h
  have hle := spanL_le notNl (text.drop pos)
  split at h
  · cases h
  · split at h
    · cases h
    · split at h
      · cases h
      · rename_i h1 _ _
        obtain ⟨h2, h3⟩ := lineE_can hc h
        refine ⟨h2, ?_⟩
        rw [List.length_take] at h3
        rw [List.length_drop] at h1 hle h3
        omega

theorem name_take (text : List UInt8) (pos n c : Nat) (hc : c ≤ n) : (text.drop pos).take c = ((text.drop pos).take n).take c := by
  rw [List.take_take]; congr 1; omega
theorem ref_step (text : List UInt8) (hl : text.length ≤ 65536) (fs : List Fld) (hc : CanP fs) (pos : Nat) (hp : pos < text.length) :
    RefDoes text fs pos (fun k => bulletinref09_Parse.l0 k (mkS text) (fs.map toR) (pos : Int)) (stepP text pos fs) := by
  have hs := mkS_size text
  have hml : (fs.map toR).length = fs.length := List.length_map _
  have hfl := hc.len
  have hle := spanL_le notNl (text.drop pos)
  have hsp : spanA notNl text pos = pos + spanL notNl (text.drop pos) := rfl
  unfold stepP
  generalize spanL notNl (text.drop pos) = n at *
  rw [List.length_drop] at *
  have Hsp := Lib.hid hsp
  clear hsp
  have hstart : ∀ R, Ev (fun k => bulletinref09_Parse.j2 k (mkS text) (fs.map toR) (pos : Int) ((pos + n : Nat) : Int)) R → Ev (fun k => bulletinref09_Parse.l0 k (mkS text) (fs.map toR) (pos : Int)) R := by
    intro R hR
    refine Ev.next ?_
    simp only [bulletinref09_Parse.l0]
    exact Ev.ite_pos (by omega) (scan_nl text hl _ pos R (pos + n) hR _ pos rfl (by omega) Hsp)
  have Hw1 := Lib.hid (show wrap64 (((pos + n : Nat) : Int) - (pos : Int)) = (n : Int) by unfold wrap64; omega)
  have Hw2 := Lib.hid (show wrap64 ((pos : Int) + 998) = ((pos + 998 : Nat) : Int) by unfold wrap64; omega)
  by_cases h1 : n = text.length - pos
  · rw [if_pos h1]
    refine hstart _ (Ev.next ?_)
    simp only [bulletinref09_Parse.j2]
    rw [hs]
    exact Ev.ite_pos (by omega) (Ev.const rfl)
  · rw [if_neg h1]
    have hq : pos + n < text.length := by omega
    by_cases h2 : 998 < n
    · rw [if_pos h2]
      refine hstart _ (Ev.next ?_)
      simp only [bulletinref09_Parse.j2]
      rw [Hw1.out, Hw2.out]
      exact Ev.ite_neg (by omega) (Ev.ite_pos (by omega) (Ev.const rfl))
    · rw [if_neg h2]
      have hj2 : ∀ R, Ev (fun k => bulletinref09_Parse.l2 k (mkS text) (fs.map toR) (pos : Int) ((pos + n : Nat) : Int) (-1) (pos : Int)) R → Ev (fun k => bulletinref09_Parse.l0 k (mkS text) (fs.map toR) (pos : Int)) R := by
        intro R hR
        refine hstart _ (Ev.next ?_)
        simp only [bulletinref09_Parse.j2]
        rw [Hw1.out, Hw2.out]
        exact Ev.ite_neg (by omega) (Ev.ite_neg (by omega) hR)
      have hL : (text.drop pos).take n = (text.take (pos + n)).drop pos := by rw [List.drop_take]; congr 1; omega
      have hLl : ((text.drop pos).take n).length = n := by rw [List.length_take, List.length_drop]; omega
      have hob : spanA okByte (text.take (pos + n)) pos = pos + spanL okByte ((text.drop pos).take n) := by rw [hL]; rfl
      have hob2 := spanL_le okByte ((text.drop pos).take n)
      have hcb : spanA notColon (text.take (pos + n)) pos = pos + colonP ((text.drop pos).take n) := by rw [hL]; rfl
      have hcb2 := spanL_le notColon ((text.drop pos).take n)
      have hcb3 : colonP ((text.drop pos).take n) ≤ n := by rw [hLl] at hcb2; exact hcb2
      rw [hLl] at hob2
      have Hob := Lib.hid hob
      have Hcb := Lib.hid hcb
      clear hob hcb hcb2
      by_cases h3 : spanL okByte ((text.drop pos).take n) < n
      · rw [if_pos h3]
        exact hj2 _ (bytes_bad text hl _ pos (pos + n) (by omega) _ (by omega) _ pos rfl (by omega) Hob (-1))
      · rw [if_neg h3]
        have h4 : spanL okByte ((text.drop pos).take n) = n := by omega
        rw [h4] at Hob
        clear h3 hob2 h4
        -- behind the bytes
        have hend : ∀ R, Ev (fun k => bulletinref09_Parse.j5 k (mkS text) (fs.map toR) (pos : Int) ((pos + n : Nat) : Int) (if colonP ((text.drop pos).take n) = n then -1 else ((pos + colonP ((text.drop pos).take n) : Nat) : Int)) (contP ((text.drop pos).take n))) R → Ev (fun k => bulletinref09_Parse.l0 k (mkS text) (fs.map toR) (pos : Int)) R := by
          intro R hR
          refine hj2 R (bytes_ok text hl _ pos (pos + n) (by omega) R _ pos rfl (by omega) Hob (-1) ?_ (Or.inr rfl))
          rw [if_neg (by omega), Hcb.out]
          have hif : (if pos + colonP ((text.drop pos).take n) = pos + n then (-1 : Int) else ((pos + colonP ((text.drop pos).take n) : Nat) : Int)) = if colonP ((text.drop pos).take n) = n then -1 else ((pos + colonP ((text.drop pos).take n) : Nat) : Int) := by
            by_cases h : colonP ((text.drop pos).take n) = n
            · rw [if_pos h, if_pos (by omega)]
            · rw [if_neg h, if_neg (by omega)]
          rw [hif]
          refine Ev.next ?_
          simp only [bulletinref09_Parse.l2]
          refine Ev.ite_neg (by omega) ?_
          by_cases h0 : n = 0
          · have : contP ((text.drop pos).take n) = false := by rw [h0]; rfl
            rw [this] at hR
            exact Ev.ite_neg (by omega) hR
          · have : contP ((text.drop pos).take n) = isBlank text[pos] := by
              obtain ⟨m, rfl⟩ : ∃ m, n = m + 1 := ⟨n - 1, by omega⟩
              rw [List.drop_eq_getElem_cons hp]; rfl
            rw [this] at hR
            refine Ev.ite_pos (by omega) (Ev.ite_pos (by omega) (Ev.ite_pos (by omega) ?_))
            rw [bt_mk text pos hp, rBlankF]
            simp only [Option.bind_some]
            exact hR
        have hname : ∀ c : Nat, c ≤ n → (mkS text).extract ((pos : Int)).toNat (((pos + c : Nat) : Int)).toNat = mkS (((text.drop pos).take n).take c) := by
          intro c hcn
          rw [Int.toNat_natCast, Int.toNat_natCast, extract_mk, mkS_toList, show pos + c - pos = c by omega, name_take text pos n c hcn]
        have hbod := fun (gs : List Fld) (g0 : gs ≠ []) (hg : CanP gs) (i : Nat) (hi : pos + i ≤ pos + n) => body_does text hl gs g0 hg.len hg.can hg.body pos (pos + n) i hq hi
        rw [← hL] at hbod
        generalize (text.drop pos).take n = line at *
        have hvn : (mkS text).size ≤ 65536 := by omega
        unfold lineE
        rw [hLl]
        by_cases h5 : contP line = true
        · rw [if_pos h5]
          rw [h5] at hend
          by_cases h6 : fs = []
          · rw [if_pos h6]
            refine hend _ (Ev.next ?_)
            simp only [bulletinref09_Parse.j5]
            refine Ev.ite_pos (by first | trivial | rfl) (Ev.ite_pos (by rw [hml, h6]; rfl) (Ev.next ?_))
            simp only [bulletinref09_Parse.j6]
            exact Ev.ite_pos (by first | trivial | rfl) (Ev.const rfl)
          · rw [if_neg h6]
            have hpl := List.length_pos_iff.2 h6
            have hgo : ∀ R, Ev (fun k => bulletinref09_Parse.j7 k (mkS text) (fs.map toR) (pos : Int) ((pos + n : Nat) : Int) ((pos + 0 : Nat) : Int)) R → Ev (fun k => bulletinref09_Parse.l0 k (mkS text) (fs.map toR) (pos : Int)) R := by
              intro R hR
              refine hend _ (Ev.next ?_)
              simp only [bulletinref09_Parse.j5]
              refine Ev.ite_pos (by first | trivial | rfl) (Ev.ite_neg (by rw [hml]; omega) (Ev.next ?_))
              simp only [bulletinref09_Parse.j6]
              exact Ev.ite_neg (by simp) (Ev.ite_pos (by first | trivial | rfl) hR)
            have hb := hbod fs h6 hc 0 (by omega)
            cases ho : bodyE pos fs line 0 with
            | inl x => rw [ho] at hb; exact hgo _ hb
            | inr x => rw [ho] at hb; exact fun R hR => hgo _ (hb R hR)
        · rw [if_neg h5]
          have h5' : contP line = false := by simpa using h5
          rw [h5'] at hend
          by_cases h6 : colonP line = n
          · rw [if_pos h6]
            rw [if_pos h6] at hend
            refine hend _ (Ev.next ?_)
            simp only [bulletinref09_Parse.j5]
            refine Ev.ite_neg (by simp) (Ev.next ?_)
            simp only [bulletinref09_Parse.j6]
            exact Ev.ite_pos (by simp) (Ev.const rfl)
          · rw [if_neg h6]
            rw [if_neg h6] at hend
            have hcn : colonP line < n := by omega
            have hvl : (line.take (colonP line)).length ≤ 1100000 := by rw [List.length_take]; omega
            have hcheck : ∀ R, Ev (fun k => (bulletinref09_ValidName.f k (mkS (line.take (colonP line)))).bind fun t191 => (if t191 = true then (if ((fs.map toR).length : Int) = 64 then (some (([] : List S78), (pos : Int), 9)) else (if (fs.map toR).length < 4398046511104 then (bulletinref09_Parse.j7 k (mkS text) (fs.map toR ++ [(⟨mkS (line.take (colonP line)), (⟨#[]⟩ : ByteArray)⟩ : S78)]) (pos : Int) ((pos + n : Nat) : Int) ((pos + (colonP line + 1) : Nat) : Int)) else (none))) else (some (([] : List S78), (pos : Int), 12)))) R → Ev (fun k => bulletinref09_Parse.l0 k (mkS text) (fs.map toR) (pos : Int)) R := by
              intro R hR
              refine hend _ (Ev.next ?_)
              simp only [bulletinref09_Parse.j5]
              refine Ev.ite_neg (by simp) (Ev.next ?_)
              simp only [bulletinref09_Parse.j6]
              rw [hname _ hcb3]
              have hww : wrap64 (((pos + colonP line : Nat) : Int) + 1) = ((pos + (colonP line + 1) : Nat) : Int) := by rw [wrap_nat _ (by omega)]; rfl
              rw [hww]
              clear hww
              exact Ev.ite_neg (by simp; omega) (Ev.ite_neg (by simp) (Ev.ite_pos (by omega) (Ev.ite_pos (by omega) (Ev.ite_pos (by omega) hR))))
            have hV : Ev (fun k => bulletinref09_ValidName.f k (mkS (line.take (colonP line)))) (validNameL (line.take (colonP line))) := ⟨_, fun k hk => refValidF _ hvl k hk⟩
            by_cases h7 : validNameL (line.take (colonP line)) = false
            · rw [if_pos h7]
              exact hcheck _ (Ev.bind hV (Ev.ite_neg (by rw [h7]; simp) (Ev.const rfl)))
            · rw [if_neg h7]
              have h7' : validNameL (line.take (colonP line)) = true := by simpa using h7
              by_cases h8 : fs.length = 64
              · rw [if_pos h8]
                exact hcheck _ (Ev.bind hV (Ev.ite_pos h7' (Ev.ite_pos (by rw [hml]; omega) (Ev.const rfl))))
              · rw [if_neg h8]
                have hg : CanP (fs ++ [⟨line.take (colonP line), []⟩]) := ⟨by simp; omega, by rw [lastBody_snoc]; rfl, by rw [lastBody_snoc]; simp⟩
                have hb := hbod (fs ++ [⟨line.take (colonP line), []⟩]) (by simp) hg (colonP line + 1) (by omega)
                have hgo : ∀ R, Ev (fun k => bulletinref09_Parse.j7 k (mkS text) ((fs ++ [(⟨line.take (colonP line), []⟩ : Fld)]).map toR) (pos : Int) ((pos + n : Nat) : Int) ((pos + (colonP line + 1) : Nat) : Int)) R → Ev (fun k => bulletinref09_Parse.l0 k (mkS text) (fs.map toR) (pos : Int)) R := by
                  intro R hR
                  rw [List.map_append] at hR
                  exact hcheck _ (Ev.bind hV (Ev.ite_pos h7' (Ev.ite_neg (by rw [hml]; omega) (Ev.ite_pos (by rw [hml]; omega) hR))))
                cases ho : bodyE pos (fs ++ [⟨line.take (colonP line), []⟩]) line (colonP line + 1) with
                | inl x => rw [ho] at hb; exact hgo _ hb
                | inr x => rw [ho] at hb; exact fun R hR => hgo _ (hb R hR)
/-- What the whole loop gives. -/
def outP (s : PSt) : PR := if s.failed ≠ 0 then ([], s.place, s.failed) else (s.fs.map toR, 0, 0)
theorem loopP_stop (text : List UInt8) (m : Nat) (s : PSt) (h : ¬ (s.failed = 0 ∧ s.pos < text.length)) : loopP text m s = s := by
  cases m with
  | zero => rfl
  | succ m => unfold loopP; rw [if_neg h]
theorem ref_loop (text : List UInt8) (hl : text.length ≤ 65536) (p0 : Int) : ∀ m pos : Nat, text.length - pos < m → pos ≤ text.length → ∀ fs : List Fld, CanP fs →
    Ev (fun k => bulletinref09_Parse.l0 k (mkS text) (fs.map toR) (pos : Int)) (outP (loopP text m ⟨pos, fs, p0, 0⟩)) := by
  have hs := mkS_size text
  intro m
  induction m with
  | zero => intro pos h; omega
  | succ m ih =>
    intro pos hm hp fs hc
    by_cases hlt : pos < text.length
    · have hd := oneP_does text pos fs p0
      have hr := ref_step text hl fs hc pos hlt
      have hun : loopP text (m + 1) ⟨pos, fs, p0, 0⟩ = loopP text m (oneP text ⟨pos, fs, p0, 0⟩) := by
        conv => lhs; unfold loopP
        rw [if_pos ⟨rfl, hlt⟩]
      rw [hun]
      cases ho : stepP text pos fs with
      | inl x =>
        obtain ⟨pl, e⟩ := x
        rw [ho] at hd hr
        obtain ⟨h1, h2, h3⟩ := hd
        rw [loopP_stop text m _ (fun h => h3 (h1.symm.trans h.1))]
        unfold outP
        rw [if_pos (by rw [h1]; exact h3), h1, h2]
        exact hr
      | inr x =>
        obtain ⟨fs', pos'⟩ := x
        obtain ⟨hc', hp1, hp2⟩ := stepP_can hc ho
        rw [ho] at hd hr
        have hd' : oneP text ⟨pos, fs, p0, 0⟩ = ⟨pos', fs', p0, 0⟩ := hd
        rw [hd']
        exact hr _ (ih pos' (by omega) hp2 fs' hc')
    · rw [loopP_stop text (m + 1) _ (fun h => hlt h.2)]
      refine Ev.next ?_
      simp only [bulletinref09_Parse.l0]
      exact Ev.ite_neg (by omega) (Ev.const rfl)
theorem refParseF (text : List UInt8) : Ev (fun k => bulletinref09_Parse.f k (mkS text)) ((parseP text).1.map toR, (parseP text).2.1, (parseP text).2.2) := by
  have hs := mkS_size text
  unfold bulletinref09_Parse.f
  by_cases h : 65536 < text.length
  · have : parseP text = ([], 65536, 5) := by unfold parseP; rw [if_pos h]
    rw [this]
    exact Ev.ite_pos (by omega) (Ev.const rfl)
  · refine Ev.ite_neg (by omega) ?_
    have hp : parseP text = if (loopP text (text.length + 1) ⟨0, [], 0, 0⟩).failed ≠ 0 then ([], (loopP text (text.length + 1) ⟨0, [], 0, 0⟩).place, (loopP text (text.length + 1) ⟨0, [], 0, 0⟩).failed) else ((loopP text (text.length + 1) ⟨0, [], 0, 0⟩).fs, 0, 0) := by
      unfold parseP; rw [if_neg h]
    refine (ref_loop text (by omega) 0 (text.length + 1) 0 (by omega) (by omega) [] ⟨by simp, rfl, by simp [lastBody]⟩).is ?_
    rw [hp]
    unfold outP
    split <;> rfl
/-- What every step keeps, the result has. -/
theorem loop_ind (text : List UInt8) (P : Nat → List Fld → Prop) (hstep : ∀ pos fs fs' pos', pos < text.length → CanP fs → P pos fs → stepP text pos fs = .inr (fs', pos') → P pos' fs') (p0 : Int) :
    ∀ m pos : Nat, text.length - pos < m → pos ≤ text.length → ∀ fs : List Fld, CanP fs → P pos fs → (loopP text m ⟨pos, fs, p0, 0⟩).failed = 0 → CanP (loopP text m ⟨pos, fs, p0, 0⟩).fs ∧ P text.length (loopP text m ⟨pos, fs, p0, 0⟩).fs := by
  intro m
  induction m with
  | zero => intro pos h; omega
  | succ m ih =>
    intro pos hm hp fs hc hP hf
    by_cases hlt : pos < text.length
    · have hd := oneP_does text pos fs p0
      have hun : loopP text (m + 1) ⟨pos, fs, p0, 0⟩ = loopP text m (oneP text ⟨pos, fs, p0, 0⟩) := by
        conv => lhs; unfold loopP
        rw [if_pos ⟨rfl, hlt⟩]
      rw [hun] at hf ⊢
      cases ho : stepP text pos fs with
      | inl x =>
        obtain ⟨pl, e⟩ := x
        rw [ho] at hd
        obtain ⟨h1, h2, h3⟩ := hd
        rw [loopP_stop text m _ (fun h => h3 (h1.symm.trans h.1)), h1] at hf
        exact absurd hf h3
      | inr x =>
        obtain ⟨fs', pos'⟩ := x
        obtain ⟨hc', hp1, hp2⟩ := stepP_can hc ho
        rw [ho] at hd
        have hd' : oneP text ⟨pos, fs, p0, 0⟩ = ⟨pos', fs', p0, 0⟩ := hd
        rw [hd'] at hf ⊢
        exact ih pos' (by omega) hp2 fs' hc' (hstep pos fs fs' pos' hlt hc hP ho) hf
    · rw [loopP_stop text (m + 1) _ (fun h => hlt h.2)]
      obtain rfl : pos = text.length := by omega
      exact ⟨hc, hP⟩
theorem parse_ind (text : List UInt8) (P : Nat → List Fld → Prop) (h0 : P 0 []) (hstep : ∀ pos fs fs' pos', pos < text.length → CanP fs → P pos fs → stepP text pos fs = .inr (fs', pos') → P pos' fs')
    (hz : (parseP text).2.2 = 0) : CanP (parseP text).1 ∧ P text.length (parseP text).1 := by
  unfold parseP at hz ⊢
  by_cases h : 65536 < text.length
  · rw [if_pos h] at hz; exact absurd hz (by decide)
  · rw [if_neg h] at hz ⊢
    dsimp only at hz ⊢
    by_cases hf : (loopP text (text.length + 1) ⟨0, [], 0, 0⟩).failed ≠ 0
    · rw [if_pos hf] at hz; exact absurd hz hf
    · rw [if_neg hf]
      exact loop_ind text P hstep 0 (text.length + 1) 0 (by omega) (by omega) [] ⟨by simp, rfl, by simp [lastBody]⟩ h0 (by simpa using hf)
theorem parse_fail (text : List UInt8) (hz : (parseP text).2.2 ≠ 0) : (parseP text).1 = [] := by
  unfold parseP at hz ⊢
  by_cases h : 65536 < text.length
  · rw [if_pos h]
  · rw [if_neg h] at hz ⊢
    dsimp only at hz ⊢
    by_cases hf : (loopP text (text.length + 1) ⟨0, [], 0, 0⟩).failed ≠ 0
    · rw [if_pos hf]
    · rw [if_neg hf] at hz; exact absurd rfl hz
theorem parse_len (text : List UInt8) : (parseP text).1.length ≤ 64 := by
  by_cases hz : (parseP text).2.2 = 0
  · exact (parse_ind text (fun _ _ => True) trivial (fun _ _ _ _ _ _ _ _ => trivial) hz).1.len
  · rw [parse_fail text hz]; simp
end Go.Proofs.YtfeciafdioepiaaGreatDoor

/- Plain: what is printed is parsed back. -/
namespace Go.Proofs.YtfeciafdioepiaaGreatDoor
open Go.RowKit Go.Proofs Go.Proofs.YtfeciafdioepiaaGreatDoorW.PrintWords Go.Proofs.YtfeciafdioepiaaGreatDoor.PA

/-- Some steps of the parser. -/
def stepN (text : List UInt8) : Nat → Nat → List Fld → Option (Nat × List Fld)
  | 0, pos, fs => some (pos, fs)
  | n + 1, pos, fs => if pos < text.length then (match stepP text pos fs with
    | .inr (fs', pos') => stepN text n pos' fs'
    | .inl _ => none) else none
def Steps (text : List UInt8) (pos : Nat) (fs : List Fld) (pos' : Nat) (fs' : List Fld) : Prop := ∃ n, stepN text n pos fs = some (pos', fs')
theorem Steps.refl (text : List UInt8) (pos : Nat) (fs : List Fld) : Steps text pos fs pos fs := ⟨0, rfl⟩
theorem Steps.trans {text : List UInt8} {p1 p2 p3 : Nat} {f1 f2 f3 : List Fld} (h : Steps text p1 f1 p2 f2) (k : Steps text p2 f2 p3 f3) : Steps text p1 f1 p3 f3 := by
  obtain ⟨n, h⟩ := h
  obtain ⟨m, k⟩ := k
  refine ⟨n + m, ?_⟩
  induction n generalizing p1 f1 with
  | zero => simp only [stepN] at h; injection h with h; injection h with h1 h2; subst h1 h2; rw [Nat.zero_add]; exact k
  | succ n ih =>
    rw [show n + 1 + m = (n + m) + 1 by omega]
    unfold stepN at h ⊢
    split at h
    · rename_i hp
      rw [if_pos hp]
      cases hs : stepP text p1 f1 with
      | inl x => rw [hs] at h; cases h
      | inr x => rw [hs] at h; exact ih h
    · cases h
theorem Steps.one {text : List UInt8} {pos pos' : Nat} {fs fs' : List Fld} (hp : pos < text.length) (h : stepP text pos fs = .inr (fs', pos')) : Steps text pos fs pos' fs' := ⟨1, by unfold stepN; rw [if_pos hp, h]; rfl⟩
theorem Steps.parse {text : List UInt8} (hl : text.length ≤ 65536) {fs : List Fld} (h : Steps text 0 [] text.length fs) : parseP text = (fs, 0, 0) := by
  obtain ⟨n, h⟩ := h
  have key : ∀ (n m pos : Nat) (gs : List Fld), text.length - pos < m → pos ≤ text.length → CanP gs → stepN text n pos gs = some (text.length, fs) → loopP text m ⟨pos, gs, 0, 0⟩ = ⟨text.length, fs, 0, 0⟩ := by
    intro n
    induction n with
    | zero =>
      intro m pos gs hm hp hc h
      simp only [stepN] at h
      injection h with h
      injection h with h1 h2
      subst h1 h2
      exact loopP_stop text m _ (fun h => absurd h.2 (by simp))
    | succ n ih =>
      intro m pos gs hm hp hc h
      unfold stepN at h
      split at h
      · rename_i hlt
        obtain ⟨m, rfl⟩ : ∃ k, m = k + 1 := ⟨m - 1, by omega⟩
        have hd := oneP_does text pos gs 0
        cases hs : stepP text pos gs with
        | inl x => rw [hs] at h; cases h
        | inr x =>
          obtain ⟨fs', pos'⟩ := x
          rw [hs] at h hd
          obtain ⟨hc', hp1, hp2⟩ := stepP_can hc hs
          have hd' : oneP text ⟨pos, gs, 0, 0⟩ = ⟨pos', fs', 0, 0⟩ := hd
          unfold loopP
          rw [if_pos ⟨rfl, hlt⟩, hd']
          exact ih m pos' fs' (by omega) hp2 hc' h
      · cases h
  unfold parseP
  rw [if_neg (by omega)]
  dsimp only
  rw [key n (text.length + 1) 0 [] (by omega) (by omega) ⟨by simp, rfl, by simp [lastBody]⟩ h]
  rfl

/-! ### one printed line -/
theorem spanL_all (p : UInt8 → Bool) : ∀ l : List UInt8, (∀ c ∈ l, p c = true) → spanL p l = l.length
  | [], _ => rfl
  | c :: l, h => by unfold spanL; rw [if_pos (h c (by simp)), spanL_all p l (fun d hd => h d (by simp [hd]))]; rfl
theorem spanL_app (p : UInt8 → Bool) : ∀ (l : List UInt8) (c : UInt8) (r : List UInt8), (∀ d ∈ l, p d = true) → p c = false → spanL p (l ++ c :: r) = l.length
  | [], c, r, _, hc => by simp [spanL, hc]
  | d :: l, c, r, h, hc => by
    rw [List.cons_append]; unfold spanL
    rw [if_pos (h d (by simp)), spanL_app p l c r (fun e he => h e (by simp [he])) hc]; rfl
theorem step_line (text : List UInt8) (pos : Nat) (fs : List Fld) (line rest : List UInt8) (h : text.drop pos = line ++ 10 :: rest) (h1 : ∀ c ∈ line, notNl c = true) (h2 : ∀ c ∈ line, okByte c = true) (h3 : line.length ≤ 998) :
    pos < text.length ∧ stepP text pos fs = lineE text pos fs line := by
  have hlen : text.length - pos = line.length + (rest.length + 1) := by
    have := congrArg List.length h
    rw [List.length_drop, List.length_append, List.length_cons] at this; exact this
  refine ⟨by omega, ?_⟩
  have hn : spanL notNl (text.drop pos) = line.length := by rw [h]; exact spanL_app notNl line 10 rest h1 (by decide)
  have ht : (text.drop pos).take line.length = line := by rw [h]; simp
  unfold stepP
  rw [hn, ht, if_neg (by rw [List.length_drop]; omega), if_neg (by omega), spanL_all okByte line h2, if_neg (by omega)]

/-- Words behind spaces. -/
def tailW (ws : List (List UInt8)) : List UInt8 := ws.flatMap (32 :: ·)
theorem tailW_snoc (ws : List (List UInt8)) (x : List UInt8) : tailW (ws ++ [x]) = tailW ws ++ 32 :: x := by simp [tailW]
theorem tailW_join (ws : List (List UInt8)) (h : ws ≠ []) : tailW ws = 32 :: joinW ws := by
  induction ws with
  | nil => exact absurd rfl h
  | cons x t ih =>
    cases t with
    | nil => simp [tailW, joinW, List.intercalate]
    | cons y t =>
      have := ih (by simp)
      have e : tailW (x :: y :: t) = 32 :: (x ++ tailW (y :: t)) := by simp [tailW]
      rw [e, this]
      simp [joinW, List.intercalate_cons_cons]
theorem wordsL_tail (ws : List (List UInt8)) (h : ∀ x ∈ ws, wordOk x) : wordsL (tailW ws) = ws := by
  by_cases h0 : ws = []
  · subst h0; rfl
  · rw [tailW_join ws h0]
    have : wordsL (32 :: joinW ws) = wordsL (joinW ws) := by
      unfold wordsL
      conv => lhs; unfold wordsGo
      rw [if_pos (by decide), if_pos rfl]
    rw [this, words_join ws h]
theorem longAt_none : ∀ (ws : List (List UInt8)) (line : List UInt8) (i : Nat), (∀ x ∈ ws, x.length ≤ 900) → longAt line i ws = none
  | [], _, _, _ => rfl
  | x :: xs, line, i, h => by
    unfold longAt
    have := h x (by simp)
    rw [if_neg (by omega)]
    exact longAt_none xs line _ (fun y hy => h y (by simp [hy]))
/-- A word that may be printed. -/
def goodW (x : List UInt8) : Prop := wordOk x ∧ x.length ≤ 900 ∧ ∀ c ∈ x, okByte c = true ∧ notNl c = true
theorem tailW_bytes (ws : List (List UInt8)) (h : ∀ x ∈ ws, goodW x) : ∀ c ∈ tailW ws, okByte c = true ∧ notNl c = true := by
  intro c hc
  unfold tailW at hc
  rw [List.mem_flatMap] at hc
  obtain ⟨x, hx, hc⟩ := hc
  rcases List.mem_cons.1 hc with rfl | hc
  · exact ⟨by decide, by decide⟩
  · exact (h x hx).2.2 c hc
theorem setBody_set (fs : List Fld) (a b : List UInt8) : setBody (setBody fs a) b = setBody fs b := by
  by_cases h : fs = []
  · subst h; rfl
  · have e : ∀ c, setBody fs c = fs.dropLast ++ [⟨(fs.getLast h).name, c⟩] := fun c => by
      unfold setBody; rw [List.getLast?_eq_some_getLast h]
    rw [e a, e b]
    unfold setBody
    simp
theorem setBody_snoc (fs : List Fld) (n a b : List UInt8) : setBody (fs ++ [⟨n, a⟩]) b = fs ++ [⟨n, b⟩] := by
  unfold setBody; simp
theorem setBody_ne (fs : List Fld) (h : fs ≠ []) (b : List UInt8) : setBody fs b ≠ [] := by
  intro e
  have := congrArg List.length e
  rw [setBody_len] at this
  exact h (List.eq_nil_of_length_eq_zero this)
theorem joinW_app_len (a b : List (List UInt8)) : (joinW a).length ≤ (joinW (a ++ b)).length := by
  induction b generalizing a with
  | nil => simp
  | cons x b ih =>
    have := ih (a ++ [x])
    rw [List.append_assoc] at this
    refine Nat.le_trans ?_ this
    by_cases h : a = []
    · subst h; simp [joinW, List.intercalate]
    · rw [joinW_snoc a x h]; simp
theorem foldW_out : ∀ (ws : List (List UInt8)) (out line : List UInt8) (e : Bool), foldW ws out line e = out ++ foldW ws [] line e
  | [], out, line, e => by simp [foldW]
  | x :: ws, out, line, e => by
    unfold foldW
    split
    · rw [foldW_out ws (out ++ (line ++ [10])), foldW_out ws ([] ++ (line ++ [10]))]; simp
    · exact foldW_out ws out _ false

/-- The lines that go on. -/
theorem cont_lines (text : List UInt8) : ∀ (ws cur W0 : List (List UInt8)) (pos : Nat) (fs : List Fld) (rest : List UInt8), cur ≠ [] → fs ≠ [] → lastBody fs = joinW W0 → (∀ x ∈ W0, wordOk x) → (∀ x ∈ cur, goodW x) → (∀ x ∈ ws, goodW x) →
    (tailW cur).length ≤ 998 → (joinW (W0 ++ cur ++ ws)).length ≤ 8192 → text.drop pos = foldW ws [] (tailW cur) false ++ rest →
    Steps text pos fs (pos + (foldW ws [] (tailW cur) false).length) (setBody fs (joinW (W0 ++ cur ++ ws))) := by
  have flush : ∀ (cur W0 : List (List UInt8)) (pos : Nat) (fs : List Fld) (rest : List UInt8), cur ≠ [] → fs ≠ [] → lastBody fs = joinW W0 → (∀ x ∈ W0, wordOk x) → (∀ x ∈ cur, goodW x) → (tailW cur).length ≤ 998 → (joinW (W0 ++ cur)).length ≤ 8192 →
      text.drop pos = tailW cur ++ 10 :: rest → Steps text pos fs (pos + ((tailW cur).length + 1)) (setBody fs (joinW (W0 ++ cur))) := by
    intro cur W0 pos fs rest h0 hf hb hw hc hl h8 ht
    obtain ⟨hp, hs⟩ := step_line text pos fs (tailW cur) rest ht (fun c hc' => (tailW_bytes cur hc c hc').2) (fun c hc' => (tailW_bytes cur hc c hc').1) hl
    refine Steps.one hp ?_
    rw [hs]
    unfold lineE
    have hcp : contP (tailW cur) = true := by rw [tailW_join cur h0]; rfl
    rw [if_pos hcp, if_neg hf]
    unfold bodyE
    rw [List.drop_zero, wordsL_tail cur (fun x hx => (hc x hx).1), longAt_none cur _ _ (fun x hx => (hc x hx).2.1), hb, words_join W0 hw]
    dsimp only
    rw [if_neg (by omega)]
  intro ws
  induction ws with
  | nil =>
    intro cur W0 pos fs rest h0 hf hb hw hc _ hl h8 ht
    have e : foldW [] [] (tailW cur) false = tailW cur ++ [10] := by simp [foldW]
    rw [e] at ht ⊢
    rw [List.append_nil] at h8 ⊢
    have := flush cur W0 pos fs rest h0 hf hb hw hc hl h8 (by rw [ht]; simp)
    simpa using this
  | cons x ws ih =>
    intro cur W0 pos fs rest h0 hf hb hw hc hws hl h8 ht
    have hx := hws x (by simp)
    have hws' : ∀ y ∈ ws, goodW y := fun y hy => hws y (by simp [hy])
    by_cases hfit : 78 < (tailW cur).length + 1 + x.length
    · have e : foldW (x :: ws) [] (tailW cur) false = (tailW cur ++ [10]) ++ foldW ws [] (32 :: x) false := by
        conv => lhs; unfold foldW
        rw [if_pos ⟨rfl, hfit⟩, foldW_out]; simp
      have e1 : tailW [x] = 32 :: x := by simp [tailW]
      rw [e] at ht ⊢
      have h8' : (joinW (W0 ++ cur)).length ≤ 8192 := by
        have := joinW_app_len (W0 ++ cur) (x :: ws); omega
      have s1 := flush cur W0 pos fs (foldW ws [] (32 :: x) false ++ rest) h0 hf hb hw hc hl h8' (by rw [ht]; simp)
      have hd : text.drop (pos + ((tailW cur).length + 1)) = foldW ws [] (tailW [x]) false ++ rest := by
        rw [← List.drop_drop, ht, e1]
        have : (tailW cur).length + 1 = (tailW cur ++ [10]).length := by simp
        rw [this, List.append_assoc, List.drop_left]
      have s2 := ih [x] (W0 ++ cur) (pos + ((tailW cur).length + 1)) (setBody fs (joinW (W0 ++ cur))) rest (by simp) (setBody_ne fs hf _) (lastBody_set fs hf _)
        (fun y hy => by rcases List.mem_append.1 hy with h | h; exact hw y h; exact (hc y h).1) (fun y hy => by simp at hy; subst hy; exact hx) hws' (by rw [e1]; have := hx.2.1; simp; omega) (by simpa using h8) hd
      have s3 := s1.trans s2
      rw [setBody_set, e1] at s3
      have hj : W0 ++ cur ++ [x] ++ ws = W0 ++ cur ++ x :: ws := by simp
      rw [hj] at s3
      have hp : pos + ((tailW cur).length + 1) + (foldW ws [] (32 :: x) false).length = pos + ((tailW cur ++ [10]) ++ foldW ws [] (32 :: x) false).length := by simp; omega
      rw [hp] at s3
      exact s3
    · have e : foldW (x :: ws) [] (tailW cur) false = foldW ws [] (tailW (cur ++ [x])) false := by
        conv => lhs; unfold foldW
        rw [if_neg (fun h => hfit h.2), tailW_snoc]
      rw [e] at ht ⊢
      have hj : W0 ++ cur ++ x :: ws = W0 ++ (cur ++ [x]) ++ ws := by simp
      rw [hj] at h8 ⊢
      exact ih (cur ++ [x]) W0 pos fs rest (by simp) hf hb hw (fun y hy => by rcases List.mem_append.1 hy with h | h; exact hc y h; simp at h; subst h; exact hx) hws' (by rw [tailW_snoc]; simp; omega) h8 ht

theorem name_bytes (c : UInt8) (h : nameByte c = true) : okByte c = true ∧ notNl c = true ∧ notColon c = true ∧ isBlank c = false := by
  have key : ∀ c : UInt8, nameByte c = true → okByte c = true ∧ notNl c = true ∧ notColon c = true ∧ isBlank c = false := by
    apply all_u8
    decide +kernel
  exact key c h
theorem valid_parts {n : List UInt8} (h : validNameL n = true) : n.length ≤ 40 ∧ n ≠ [] ∧ ∀ c ∈ n, nameByte c = true := by
  unfold validNameL at h
  simp only [Bool.and_eq_true, decide_eq_true_eq, List.all_eq_true] at h
  refine ⟨h.1.1, ?_, h.2⟩
  rintro rfl
  simp at h
/-- The first line of a field. -/
theorem first_flush (text : List UInt8) (cur : List (List UInt8)) (pos : Nat) (fs : List Fld) (name rest : List UInt8) (hn : validNameL name = true) (hf : fs.length < 64) (hc : ∀ x ∈ cur, goodW x) (hl : (name ++ [58] ++ tailW cur).length ≤ 998) (h8 : (joinW cur).length ≤ 8192)
    (ht : text.drop pos = (name ++ [58] ++ tailW cur) ++ 10 :: rest) : Steps text pos fs (pos + ((name ++ [58] ++ tailW cur).length + 1)) (fs ++ [⟨name, joinW cur⟩]) := by
  obtain ⟨hn40, hn0, hnb⟩ := valid_parts hn
  have hbytes : ∀ c ∈ name ++ [58] ++ tailW cur, okByte c = true ∧ notNl c = true := by
    intro c h
    rcases List.mem_append.1 h with h | h
    · rcases List.mem_append.1 h with h | h
      · have := name_bytes c (hnb c h); exact ⟨this.1, this.2.1⟩
      · simp at h; subst h; exact ⟨by decide, by decide⟩
    · exact tailW_bytes cur hc c h
  obtain ⟨hp, hs⟩ := step_line text pos fs _ rest ht (fun c h => (hbytes c h).2) (fun c h => (hbytes c h).1) hl
  refine Steps.one hp ?_
  rw [hs]
  have hcol : colonP (name ++ [58] ++ tailW cur) = name.length := by
    unfold colonP
    rw [List.append_assoc]
    exact spanL_app notColon name 58 (tailW cur) (fun d hd => (name_bytes d (hnb d hd)).2.2.1) (by decide)
  have hcp : contP (name ++ [58] ++ tailW cur) = false := by
    cases name with
    | nil => exact absurd rfl hn0
    | cons c t => exact (name_bytes c (hnb c (by simp))).2.2.2
  have htk : (name ++ [58] ++ tailW cur).take name.length = name := by rw [List.append_assoc]; simp
  have hdr : (name ++ [58] ++ tailW cur).drop (name.length + 1) = tailW cur := by
    have : name.length + 1 = (name ++ [58]).length := by simp
    rw [this, List.drop_left]
  unfold lineE
  rw [hcp, if_neg (by simp), hcol, if_neg (by simp), htk, hn, if_neg (by simp), if_neg (by omega)]
  unfold bodyE
  rw [hdr, wordsL_tail cur (fun x hx => (hc x hx).1), longAt_none cur _ _ (fun x hx => (hc x hx).2.1), lastBody_snoc]
  dsimp only
  have hw0 : wordsL ([] : List UInt8) = [] := rfl
  rw [hw0, List.nil_append, if_neg (by omega), setBody_snoc]
theorem first_lines (text : List UInt8) (name : List UInt8) (hn : validNameL name = true) : ∀ (ws cur : List (List UInt8)) (pos : Nat) (fs : List Fld) (rest : List UInt8) (e : Bool), (e = true → cur = []) → fs.length < 64 → (∀ x ∈ cur, goodW x) → (∀ x ∈ ws, goodW x) →
    (name ++ [58] ++ tailW cur).length ≤ 998 → (joinW (cur ++ ws)).length ≤ 8192 → text.drop pos = foldW ws [] (name ++ [58] ++ tailW cur) e ++ rest →
    Steps text pos fs (pos + (foldW ws [] (name ++ [58] ++ tailW cur) e).length) (fs ++ [⟨name, joinW (cur ++ ws)⟩]) := by
  obtain ⟨hn40, _, _⟩ := valid_parts hn
  intro ws
  induction ws with
  | nil =>
    intro cur pos fs rest e he hf hc _ hl h8 ht
    have e1 : foldW [] [] (name ++ [58] ++ tailW cur) e = (name ++ [58] ++ tailW cur) ++ [10] := by simp [foldW]
    rw [e1] at ht ⊢
    rw [List.append_nil] at h8 ⊢
    have := first_flush text cur pos fs name rest hn hf hc hl h8 (by rw [ht]; simp)
    rw [List.length_append, List.length_singleton]
    exact this
  | cons x ws ih =>
    intro cur pos fs rest e he hf hc hws hl h8 ht
    have hx := hws x (by simp)
    have hws' : ∀ y ∈ ws, goodW y := fun y hy => hws y (by simp [hy])
    have hxl := hx.2.1
    by_cases hfit : e = false ∧ 78 < (name ++ [58] ++ tailW cur).length + 1 + x.length
    · have e0 : foldW (x :: ws) [] (name ++ [58] ++ tailW cur) e = ((name ++ [58] ++ tailW cur) ++ [10]) ++ foldW ws [] (32 :: x) false := by
        conv => lhs; unfold foldW
        rw [if_pos hfit, foldW_out]; simp
      have e1 : tailW [x] = 32 :: x := by simp [tailW]
      rw [e0] at ht ⊢
      have h8' : (joinW cur).length ≤ 8192 := by
        have := joinW_app_len cur (x :: ws); omega
      have s1 := first_flush text cur pos fs name (foldW ws [] (32 :: x) false ++ rest) hn hf hc hl h8' (by rw [ht]; simp)
      generalize hL : name ++ [58] ++ tailW cur = L at *
      have hd : text.drop (pos + (L.length + 1)) = foldW ws [] (tailW [x]) false ++ rest := by
        rw [← List.drop_drop, ht, e1]
        have : L.length + 1 = (L ++ [10]).length := by simp
        rw [this, List.append_assoc, List.drop_left]
      have s2 := cont_lines text ws [x] cur (pos + (L.length + 1)) (fs ++ [⟨name, joinW cur⟩]) rest (by simp) (by simp) (lastBody_snoc _ _) (fun y hy => (hc y hy).1) (fun y hy => by simp at hy; subst hy; exact hx) hws' (by rw [e1]; simp; omega) (by simpa using h8) hd
      have s3 := s1.trans s2
      rw [setBody_snoc, e1] at s3
      have hj : cur ++ [x] ++ ws = cur ++ x :: ws := by simp
      rw [hj] at s3
      have hp : pos + (L.length + 1) + (foldW ws [] (32 :: x) false).length = pos + ((L ++ [10]) ++ foldW ws [] (32 :: x) false).length := by simp; omega
      rw [hp] at s3
      exact s3
    · have e1 : foldW (x :: ws) [] (name ++ [58] ++ tailW cur) e = foldW ws [] (name ++ [58] ++ tailW (cur ++ [x])) false := by
        conv => lhs; unfold foldW
        rw [if_neg hfit, tailW_snoc]; simp
      rw [e1] at ht ⊢
      have hj : cur ++ x :: ws = (cur ++ [x]) ++ ws := by simp
      rw [hj] at h8 ⊢
      refine ih (cur ++ [x]) pos fs rest false (by simp) hf (fun y hy => by rcases List.mem_append.1 hy with h | h; exact hc y h; simp at h; subst h; exact hx) hws' ?_ h8 ht
      rw [tailW_snoc]
      cases e with
      | true =>
        have := he rfl
        subst this
        simp [tailW]; omega
      | false =>
        have : ¬ 78 < (name ++ [58] ++ tailW cur).length + 1 + x.length := fun h => hfit ⟨rfl, h⟩
        simp only [List.length_append, List.length_cons] at this ⊢
        omega

/-! ### valid fields -/
theorem wordsGo_mem (l : List UInt8) : ∀ cur, ∀ x ∈ wordsGo l cur, ∀ c ∈ x, c ∈ cur ∨ c ∈ l := by
  induction l with
  | nil =>
    intro cur x hx c hc
    unfold wordsGo at hx
    split at hx
    · simp at hx
    · simp at hx; subst hx; exact Or.inl hc
  | cons d l ih =>
    intro cur x hx c hc
    unfold wordsGo at hx
    by_cases hb : isBlank d = true
    · rw [if_pos hb] at hx
      by_cases h0 : cur = []
      · rw [if_pos h0] at hx
        rcases ih [] x hx c hc with h | h
        · simp at h
        · exact Or.inr (by simp [h])
      · rw [if_neg h0] at hx
        rcases List.mem_cons.1 hx with rfl | hx
        · exact Or.inl hc
        · rcases ih [] x hx c hc with h | h
          · simp at h
          · exact Or.inr (by simp [h])
    · rw [if_neg hb] at hx
      rcases ih (cur ++ [d]) x hx c hc with h | h
      · rcases List.mem_append.1 h with h | h
        · exact Or.inl h
        · simp at h; subst h; exact Or.inr (by simp)
      · exact Or.inr (by simp [h])
theorem spanL_mem (p : UInt8 → Bool) : ∀ l : List UInt8, spanL p l = l.length → ∀ c ∈ l, p c = true
  | [], _, c, h => by simp at h
  | d :: l, h, c, hc => by
    unfold spanL at h
    by_cases hd : p d = true
    · rw [if_pos hd] at h
      rcases List.mem_cons.1 hc with rfl | hc
      · exact hd
      · exact spanL_mem p l (by simpa using h) c hc
    · rw [if_neg hd] at h; simp at h
/-- What a valid field is. -/
structure GoodF (f : Fld) : Prop where
  name : validNameL f.name = true
  words : ∀ x ∈ wordsL f.body, goodW x
  can : joinW (wordsL f.body) = f.body
  len : f.body.length ≤ 8192
theorem ok_of (c : UInt8) (h1 : okPrint c = true) (h2 : isBlank c = false) : okByte c = true ∧ notNl c = true := by
  have key : ∀ c : UInt8, okPrint c = true → isBlank c = false → okByte c = true ∧ notNl c = true := by
    apply all_u8
    decide +kernel
  exact key c h1 h2
theorem good_of_check {f : Fld} (h : checkL f.name f.body = 0) : GoodF f := by
  unfold checkL at h
  split at h
  · rename_i h1
    split at h
    · cases h
    · rename_i h2
      split at h
      · rename_i h3
        split at h
        · cases h
        · rename_i h4
          split at h
          · cases h
          · rename_i h5
            have hsp : spanL okPrint f.body = f.body.length := by
              unfold printableZ at h2
              split at h2
              · assumption
              · exact absurd (by omega) h2
            refine ⟨h1, fun x hx => ?_, h3, by omega⟩
            have hok := wordsL_ok f.body x hx
            refine ⟨hok, ?_, fun c hc => ok_of c (spanL_mem okPrint f.body hsp c ?_) (hok.2 c hc)⟩
            · unfold longAny at h5
              rw [List.any_eq_true] at h5
              rcases Nat.lt_or_ge 900 x.length with h | h
              · exact absurd ⟨x, hx, by simpa using h⟩ h5
              · exact h
            · rcases wordsGo_mem f.body [] x hx c hc with h | h
              · simp at h
              · exact h
      · cases h
  · cases h
def printL (fs : List Fld) : List UInt8 := fs.flatMap fun f => foldL f.name f.body
theorem print_steps (text : List UInt8) : ∀ (fs : List Fld) (pos : Nat) (gs : List Fld) (rest : List UInt8), (∀ f ∈ fs, GoodF f) → gs.length + fs.length ≤ 64 → text.drop pos = printL fs ++ rest → Steps text pos gs (pos + (printL fs).length) (gs ++ fs)
  | [], pos, gs, rest, _, _, _ => by simpa [printL] using Steps.refl text pos gs
  | f :: fs, pos, gs, rest, hg, hl, ht => by
    have hf := hg f (by simp)
    have e : printL (f :: fs) = foldL f.name f.body ++ printL fs := by simp [printL]
    rw [e] at ht ⊢
    obtain ⟨hn40, _, _⟩ := valid_parts hf.name
    have hfold : foldL f.name f.body = foldW (wordsL f.body) [] (f.name ++ [58] ++ tailW []) true := by unfold foldL; simp [tailW]
    have h8 : (joinW ([] ++ wordsL f.body)).length ≤ 8192 := by rw [List.nil_append, hf.can]; exact hf.len
    have s1 := first_lines text f.name hf.name (wordsL f.body) [] pos gs (printL fs ++ rest) true (fun _ => rfl) (by simp at hl; omega) (by simp) hf.words (by simp [tailW]; omega) h8 (by rw [ht, hfold]; simp)
    rw [List.nil_append, hf.can, ← hfold] at s1
    have hd : text.drop (pos + (foldL f.name f.body).length) = printL fs ++ rest := by
      rw [← List.drop_drop, ht, List.append_assoc, List.drop_left]
    have s2 := print_steps text fs (pos + (foldL f.name f.body).length) (gs ++ [f]) rest (fun x hx => hg x (by simp [hx])) (by simp at hl ⊢; omega) hd
    have s3 := s1.trans s2
    have hp : pos + (foldL f.name f.body).length + (printL fs).length = pos + (foldL f.name f.body ++ printL fs).length := by simp; omega
    rw [hp] at s3
    simpa using s3
theorem parse_print (fs : List Fld) (hg : ∀ f ∈ fs, GoodF f) (hl : fs.length ≤ 64) (h6 : (printL fs).length ≤ 65536) : parseP (printL fs) = (fs, 0, 0) := by
  have := print_steps (printL fs) fs 0 [] [] hg (by simpa using hl) (by simp)
  rw [Nat.zero_add, List.nil_append] at this
  exact this.parse h6
end Go.Proofs.YtfeciafdioepiaaGreatDoor

/- Plain: Print of the program. -/
namespace Go.Proofs.YtfeciafdioepiaaGreatDoor
open Go.RowKit Go.Proofs Go.Proofs.YtfeciafdioepiaaGreatDoorW.PrintWords Go.Proofs.YtfeciafdioepiaaGreatDoor.PA

def printGo : List Fld → List UInt8 → List UInt8 × Int
  | [], out => if 65536 < out.length then ([], 5) else (out, 0)
  | f :: fs, out => if checkL f.name f.body = 0 then printGo fs (out ++ foldL f.name f.body) else ([], checkL f.name f.body)
def printP (fs : List Fld) : List UInt8 × Int := if 64 < fs.length then ([], 9) else printGo fs []
theorem foldW_len : ∀ (ws : List (List UInt8)) (out line : List UInt8) (e : Bool), (foldW ws out line e).length ≤ out.length + line.length + costW ws + 1
  | [], out, line, e => by simp [foldW]; omega
  | x :: ws, out, line, e => by
    unfold foldW
    rw [costW_cons]
    split
    · have := foldW_len ws (out ++ (line ++ [10])) (32 :: x) false
      simp only [List.length_append, List.length_cons, List.length_nil] at this ⊢; omega
    · have := foldW_len ws out (line ++ 32 :: x) false
      simp only [List.length_append, List.length_cons] at this ⊢; omega
theorem foldL_len (n b : List UInt8) : (foldL n b).length ≤ n.length + costW (wordsL b) + 2 := by
  have := foldW_len (wordsL b) [] (n ++ [58]) true
  unfold foldL; simp at this ⊢; omega
theorem foldL_small (n b : List UInt8) (hn : n.length ≤ 1100000) (hb : b.length ≤ 1100000) : (foldL n b).length ≤ 4000000 := by
  have h1 := foldL_len n b
  have h2 := wordsL_len b
  have h3 := wordsL_sum b
  unfold costW at h1; omega
theorem printGoF : ∀ (fs : List Fld) (out : List UInt8), (∀ f ∈ fs, f.name.length ≤ 1100000 ∧ f.body.length ≤ 1100000) → Ev (fun k => GV.Print.go k (fs.map toS) out) (mkS (printGo fs out).1, (printGo fs out).2)
  | [], out, _ => by
    show Ev (fun k => if 65536 < out.length then some ((⟨#[]⟩ : ByteArray), (5 : Int)) else some (mkS out, 0)) (mkS (if 65536 < out.length then (([] : List UInt8), (5 : Int)) else (out, 0)).1, (if 65536 < out.length then (([] : List UInt8), (5 : Int)) else (out, 0)).2)
    by_cases h : 65536 < out.length
    · refine Ev.ite_pos h (Ev.const ?_); rw [if_pos h]; rfl
    · refine Ev.ite_neg h (Ev.const ?_); rw [if_neg h]
  | f :: fs, out, hf => by
    obtain ⟨hn, hb⟩ := hf f (by simp)
    have hF := foldF f.name f.body hn hb
    have hsm := foldL_small f.name f.body hn hb
    show Ev (fun k => (GV.Fold.f k (mkS f.name) (mkS f.body)).bind fun p => if p.2 = 0 then (if p.1.size ≤ 4000000 then GV.Print.go k (fs.map toS) (out ++ p.1.data.toList) else none) else some ((⟨#[]⟩ : ByteArray), p.2)) _
    refine Ev.bind hF ?_
    by_cases h : checkL f.name f.body = 0
    · rw [if_pos h]
      have e : printGo (f :: fs) out = printGo fs (out ++ foldL f.name f.body) := by
        conv => lhs; unfold printGo
        rw [if_pos h]
      rw [e]
      refine Ev.ite_pos rfl (Ev.ite_pos (by rw [mkS_size]; exact hsm) ?_)
      rw [mkS_toList]
      exact printGoF fs _ (fun g hg => hf g (by simp [hg]))
    · rw [if_neg h]
      have e : printGo (f :: fs) out = ([], checkL f.name f.body) := by
        conv => lhs; unfold printGo
        rw [if_neg h]
      rw [e]
      exact Ev.ite_neg h (Ev.const rfl)
theorem printF (fs : List Fld) (hf : ∀ f ∈ fs, f.name.length ≤ 1100000 ∧ f.body.length ≤ 1100000) : Ev (fun k => GV.Print.f k (fs.map toS)) (mkS (printP fs).1, (printP fs).2) := by
  unfold GV.Print.f printP
  rw [List.length_map]
  by_cases h : 64 < fs.length
  · rw [if_pos h]; exact Ev.ite_pos h (Ev.const rfl)
  · rw [if_neg h]; exact Ev.ite_neg h (printGoF fs [] hf)
theorem printGo_ok : ∀ (fs : List Fld) (out : List UInt8), (printGo fs out).2 = 0 → (∀ f ∈ fs, checkL f.name f.body = 0) ∧ (printGo fs out).1 = out ++ printL fs ∧ (out ++ printL fs).length ≤ 65536
  | [], out, h => by
    unfold printGo at h ⊢
    by_cases h6 : 65536 < out.length
    · rw [if_pos h6] at h; exact absurd h (by decide)
    · rw [if_neg h6]; simp [printL]; omega
  | f :: fs, out, h => by
    unfold printGo at h ⊢
    by_cases hc : checkL f.name f.body = 0
    · rw [if_pos hc] at h ⊢
      obtain ⟨h1, h2, h3⟩ := printGo_ok fs _ h
      have e : printL (f :: fs) = foldL f.name f.body ++ printL fs := by simp [printL]
      rw [e, ← List.append_assoc]
      exact ⟨fun g hg => by rcases List.mem_cons.1 hg with rfl | hg; exact hc; exact h1 g hg, h2, h3⟩
    · rw [if_neg hc] at h; exact absurd h hc
theorem printP_ok (fs : List Fld) (h : (printP fs).2 = 0) : parseP (printP fs).1 = (fs, 0, 0) := by
  unfold printP at h ⊢
  by_cases h6 : 64 < fs.length
  · rw [if_pos h6] at h; exact absurd h (by decide)
  · rw [if_neg h6] at h ⊢
    obtain ⟨h1, h2, h3⟩ := printGo_ok fs [] h
    rw [h2, List.nil_append]
    exact parse_print fs (fun f hf => good_of_check (h1 f hf)) (by omega) (by simpa using h3)
theorem printP_small (fs : List Fld) : (printP fs).1.length ≤ 65536 := by
  unfold printP
  split
  · simp
  · have key : ∀ (fs : List Fld) (out : List UInt8), (printGo fs out).1.length ≤ 65536 := by
      intro fs
      induction fs with
      | nil => intro out; unfold printGo; split <;> simp; omega
      | cons f fs ih => intro out; unfold printGo; split; exact ih _; simp
    exact key fs []
end Go.Proofs.YtfeciafdioepiaaGreatDoor
set_option linter.unusedVariables false
set_option linter.unusedSimpArgs false
namespace Go.Proofs.YtfeciafdioepiaaGreatDoor
open Go.RowKit Go.Proofs Go.Proofs.YtfeciafdioepiaaGreatDoorW.PrintWords Go.Proofs.YtfeciafdioepiaaGreatDoor.PA

/-! ### what was parsed is valid -/
theorem check_of {f : Fld} (h1 : validNameL f.name = true) (h2 : ∀ c ∈ f.body, okPrint c = true) (h3 : joinW (wordsL f.body) = f.body) (h4 : f.body.length ≤ 8192) (h5 : ∀ x ∈ wordsL f.body, x.length ≤ 900) : checkL f.name f.body = 0 := by
  unfold checkL
  have hp : ¬ printableZ f.body ≥ 0 := by
    unfold printableZ
    rw [if_pos (spanL_all okPrint f.body h2)]; decide
  have hl : ¬ longAny f.body = true := by
    unfold longAny
    rw [List.any_eq_true]
    rintro ⟨x, hx, h⟩
    have := h5 x hx
    simp at h; omega
  rw [if_pos h1, if_neg hp, if_pos h3, if_neg (by omega), if_neg hl]
theorem joinW_mem : ∀ (ws : List (List UInt8)) (c : UInt8), c ∈ joinW ws → c = 32 ∨ ∃ x ∈ ws, c ∈ x
  | [], c, h => by simp [joinW, List.intercalate] at h
  | [x], c, h => by
    have : joinW [x] = x := by simp [joinW, List.intercalate]
    rw [this] at h
    exact Or.inr ⟨x, by simp, h⟩
  | x :: y :: t, c, h => by
    have e : joinW (x :: y :: t) = x ++ (32 :: joinW (y :: t)) := by simp [joinW, List.intercalate_cons_cons]
    rw [e] at h
    rcases List.mem_append.1 h with h | h
    · exact Or.inr ⟨x, by simp, h⟩
    · rcases List.mem_cons.1 h with rfl | h
      · exact Or.inl rfl
      · rcases joinW_mem (y :: t) c h with h | ⟨z, hz, hc⟩
        · exact Or.inl h
        · exact Or.inr ⟨z, by simp at hz ⊢; exact Or.inr hz, hc⟩
theorem longAt_all : ∀ (ws : List (List UInt8)) (line : List UInt8) (i : Nat), longAt line i ws = none → ∀ x ∈ ws, x.length ≤ 900
  | [], _, _, _, x, h => by simp at h
  | y :: ys, line, i, h, x, hx => by
    unfold longAt at h
    split at h
    · cases h
    · rcases List.mem_cons.1 hx with rfl | hx
      · omega
      · exact longAt_all ys line _ h x hx
theorem okp_of (c : UInt8) (h1 : okByte c = true) (h2 : isBlank c = false) : okPrint c = true := by
  have key : ∀ c : UInt8, okByte c = true → isBlank c = false → okPrint c = true := by
    apply all_u8
    decide +kernel
  exact key c h1 h2
theorem setBody_mem (fs : List Fld) (h : fs ≠ []) (b : List UInt8) : ∀ f ∈ setBody fs b, f ∈ fs.dropLast ∨ f = ⟨(fs.getLast h).name, b⟩ := by
  intro f hf
  unfold setBody at hf
  rw [List.getLast?_eq_some_getLast h] at hf
  rcases List.mem_append.1 hf with hf | hf
  · exact Or.inl hf
  · simp at hf; exact Or.inr hf
theorem mem_dropLast {fs : List Fld} {f : Fld} (h : f ∈ fs.dropLast) : f ∈ fs := List.dropLast_subset fs h
/-- The printed length of fields. -/
def costF (fs : List Fld) : Nat := (fs.map fun f => f.name.length + 2 + costW (wordsL f.body)).sum
theorem costF_snoc (fs : List Fld) (f : Fld) : costF (fs ++ [f]) = costF fs + (f.name.length + 2 + costW (wordsL f.body)) := by simp [costF]
theorem costW_app (a b : List (List UInt8)) : costW (a ++ b) = costW a + costW b := by
  unfold costW; rw [sumL_append, List.length_append]; omega
/-- The words of a text, and what parts them. -/
theorem wordsGo_room (l : List UInt8) : ∀ cur, sumL (wordsGo l cur) + (wordsGo l cur).length ≤ l.length + cur.length + 1 := by
  induction l with
  | nil => intro cur; unfold wordsGo; split <;> simp [sumL]
  | cons c l ih =>
    intro cur
    unfold wordsGo
    by_cases hb : isBlank c = true
    · rw [if_pos hb]
      have := ih []
      by_cases h0 : cur = []
      · rw [if_pos h0]; simp at this ⊢; omega
      · rw [if_neg h0]
        have e : sumL (cur :: wordsGo l []) = cur.length + sumL (wordsGo l []) := by unfold sumL; rw [List.map_cons, List.sum_cons]
        rw [e]; simp at this ⊢; omega
    · rw [if_neg hb]
      have := ih (cur ++ [c])
      simp at this ⊢; omega
/-- All that is kept: every field is valid, but for what its last line may have left over; and the printed length. -/
structure Kept2 (pos : Nat) (fs : List Fld) : Prop where
  good : ∀ f ∈ fs, checkL f.name f.body = 0
  cost : costF fs ≤ 2 * pos
theorem body_kept {pos : Nat} {fs : List Fld} {line : List UInt8} {i : Nat} {fs' : List Fld} {pos' : Nat} (h0 : fs ≠ []) (hg : ∀ f ∈ fs.dropLast, checkL f.name f.body = 0) (hname : validNameL (fs.getLast h0).name = true) (hcan : joinW (wordsL (lastBody fs)) = lastBody fs)
    (hold : ∀ c ∈ lastBody fs, okPrint c = true) (hold2 : ∀ x ∈ wordsL (lastBody fs), x.length ≤ 900) (hline : ∀ c ∈ line, okByte c = true) (C : Nat) (hcost : costF fs + costW (wordsL (line.drop i)) ≤ C) (h : bodyE pos fs line i = .inr (fs', pos')) :
    (∀ f ∈ fs', checkL f.name f.body = 0) ∧ costF fs' ≤ C := by
  unfold bodyE at h
  split at h
  · cases h
  · rename_i hla
    split at h
    · cases h
    · rename_i h8
      injection h with h
      injection h with h1 h2
      subst h1
      have hok : ∀ x ∈ wordsL (lastBody fs) ++ wordsL (line.drop i), wordOk x := fun x hx => by rcases List.mem_append.1 hx with h | h <;> exact wordsL_ok _ x h
      have hwj := words_join _ hok
      have hlong := longAt_all _ _ _ hla
      refine ⟨fun f hf => ?_, ?_⟩
      · rcases setBody_mem fs h0 _ f hf with hf | rfl
        · exact hg f hf
        · refine check_of hname (fun c hc => ?_) (by rw [hwj]) (Nat.le_of_not_lt h8) (fun x hx => ?_)
          · rcases joinW_mem _ c hc with rfl | ⟨x, hx, hcx⟩
            · decide
            · rcases List.mem_append.1 hx with hx' | hx'
              · rcases wordsGo_mem _ [] x hx' c hcx with h | h
                · simp at h
                · exact hold c h
              · refine okp_of c ?_ ((hok x hx).2 c hcx)
                rcases wordsGo_mem _ [] x hx' c hcx with h | h
                · simp at h
                · exact hline c (List.mem_of_mem_drop h)
          · rw [hwj] at hx
            rcases List.mem_append.1 hx with hx | hx
            · exact hold2 x hx
            · exact hlong x hx
      · have e1 : costF (setBody fs (joinW (wordsL (lastBody fs) ++ wordsL (line.drop i)))) + costW (wordsL (lastBody fs)) = costF fs + costW (wordsL (lastBody fs)) + costW (wordsL (line.drop i)) := by
          have es : fs = fs.dropLast ++ [fs.getLast h0] := (List.dropLast_concat_getLast h0).symm
          have el := lastBody_eq fs h0
          generalize fs.getLast h0 = g at *
          generalize fs.dropLast = ds at *
          subst es
          rw [setBody_snoc ds g.name g.body, costF_snoc, costF_snoc]
          dsimp only
          rw [hwj, costW_app, ← el]; omega
        omega
theorem mem_checks {f : Fld} (h : checkL f.name f.body = 0) : validNameL f.name = true ∧ (∀ c ∈ f.body, okPrint c = true) ∧ (∀ x ∈ wordsL f.body, x.length ≤ 900) := by
  have hg := good_of_check h
  refine ⟨hg.name, fun c hc => ?_, fun x hx => (hg.words x hx).2.1⟩
  rw [← hg.can] at hc
  rcases joinW_mem _ c hc with rfl | ⟨x, hx, hcx⟩
  · decide
  · exact okp_of c ((hg.words x hx).2.2 c hcx).1 ((hg.words x hx).1.2 c hcx)
theorem step_kept (text : List UInt8) (pos : Nat) (fs fs' : List Fld) (pos' : Nat) (hp : pos < text.length) (hc : CanP fs) (hk : Kept2 pos fs) (h : stepP text pos fs = .inr (fs', pos')) : Kept2 pos' fs' := by
  unfold stepP at h
  have hle := spanL_le notNl (text.drop pos)
  split at h
  · cases h
  · split at h
    · cases h
    · split at h
      · cases h
      · rename_i h1 _ h3
        have hll : ((text.drop pos).take (spanL notNl (text.drop pos))).length = spanL notNl (text.drop pos) := by rw [List.length_take]; omega
        have hall : spanL okByte ((text.drop pos).take (spanL notNl (text.drop pos))) = ((text.drop pos).take (spanL notNl (text.drop pos))).length := by
          have := spanL_le okByte ((text.drop pos).take (spanL notNl (text.drop pos))); omega
        have hok := spanL_mem okByte _ hall
        generalize (text.drop pos).take (spanL notNl (text.drop pos)) = line at *
        clear hll hall h1 h3 hle
        have hpos := (lineE_can hc h).2
        unfold lineE at h
        split at h
        · split at h
          · cases h
          · rename_i h0
            have hlast := mem_checks (hk.good _ (List.getLast_mem h0))
            have hlb := lastBody_eq fs h0
            have hroom := wordsGo_room line []
            have hwl := wordsGo_len line []
            have := body_kept h0 (fun f hf => hk.good f (mem_dropLast hf)) hlast.1 hc.can (by rw [hlb]; exact hlast.2.1) (by rw [hlb]; exact hlast.2.2) hok (2 * pos') (by
              rw [List.drop_zero, hpos]
              have hk2 := hk.cost
              have e : costW (wordsL line) = sumL (wordsGo line []) + 2 * (wordsGo line []).length := rfl
              rw [e]
              simp at hroom hwl
              omega) h
            exact ⟨this.1, this.2⟩
        · split at h
          · cases h
          · rename_i hcol
            split at h
            · cases h
            · rename_i hval
              split at h
              · cases h
              · have hv : validNameL (line.take (colonP line)) = true := by simpa using hval
                have hcl : colonP line ≤ line.length := spanL_le notColon line
                have hcl2 : colonP line < line.length := Nat.lt_of_le_of_ne hcl hcol
                have hb1 : ∀ f ∈ (fs ++ [(⟨line.take (colonP line), []⟩ : Fld)]).dropLast, checkL f.name f.body = 0 := by
                  rw [List.dropLast_concat]; exact hk.good
                have hb2 : validNameL ((fs ++ [(⟨line.take (colonP line), []⟩ : Fld)]).getLast (by simp)).name = true := by
                  rw [List.getLast_concat]; exact hv
                have hb3 : lastBody (fs ++ [(⟨line.take (colonP line), []⟩ : Fld)]) = [] := lastBody_snoc _ _
                have hb4 : costF (fs ++ [(⟨line.take (colonP line), []⟩ : Fld)]) = costF fs + (colonP line + 2) := by
                  rw [costF_snoc]
                  have e0 : costW (wordsL ([] : List UInt8)) = 0 := rfl
                  dsimp only
                  rw [e0, List.length_take, Nat.min_eq_left hcl]
                have hb5 : costF fs + (colonP line + 2) + costW (wordsL (line.drop (colonP line + 1))) ≤ 2 * pos' := by
                  have hk2 := hk.cost
                  have hroom := wordsGo_room (line.drop (colonP line + 1)) []
                  have hwl := wordsGo_len (line.drop (colonP line + 1)) []
                  have e : costW (wordsL (line.drop (colonP line + 1))) = sumL (wordsGo (line.drop (colonP line + 1)) []) + 2 * (wordsGo (line.drop (colonP line + 1)) []).length := rfl
                  rw [e, hpos]
                  rw [List.length_drop] at hroom hwl
                  rw [if_pos rfl] at hwl
                  clear e hb1 hb2 hb3 hb4 h hv hval hok hcol
                  generalize sumL (wordsGo (line.drop (colonP line + 1)) []) = S at *
                  generalize (wordsGo (line.drop (colonP line + 1)) []).length = W at *
                  generalize costF fs = C at *
                  generalize colonP line = q at *
                  simp only [List.length_nil] at hroom
                  clear hc hk
                  omega
                have := body_kept (by simp) hb1 hb2 (by rw [hb3]; rfl) (by rw [hb3]; simp) (by rw [hb3]; intro x hx; simp [wordsL, wordsGo] at hx) hok (2 * pos') (by rw [hb4]; exact hb5) h
                exact ⟨this.1, this.2⟩
theorem parse_kept (t : List UInt8) (hz : (parseP t).2.2 = 0) : (∀ f ∈ (parseP t).1, checkL f.name f.body = 0) ∧ costF (parseP t).1 ≤ 2 * t.length := by
  obtain ⟨hcan, hk⟩ := parse_ind t Kept2 ⟨by simp, by simp [costF]⟩ (fun pos fs fs' pos' => step_kept t pos fs fs' pos') hz
  exact ⟨hk.good, hk.cost⟩
theorem printP_good (fs : List Fld) (hpl : fs.length ≤ 64) (hg : ∀ f ∈ fs, checkL f.name f.body = 0) : printP fs = if 65536 < (printL fs).length then ([], 5) else (printL fs, 0) := by
  unfold printP
  rw [if_neg (by omega)]
  have key : ∀ (gs : List Fld) (out : List UInt8), (∀ f ∈ gs, checkL f.name f.body = 0) → printGo gs out = if 65536 < (out ++ printL gs).length then ([], 5) else (out ++ printL gs, 0) := by
    intro gs
    induction gs with
    | nil => intro out _; unfold printGo; simp [printL]
    | cons g gs ih =>
      intro out h
      unfold printGo
      rw [if_pos (h g (by simp)), ih _ (fun f hf => h f (by simp [hf]))]
      have e : printL (g :: gs) = foldL g.name g.body ++ printL gs := by simp [printL]
      rw [e, List.append_assoc]
  rw [key fs [] hg, List.nil_append]
end Go.Proofs.YtfeciafdioepiaaGreatDoor
set_option linter.unusedVariables false
set_option linter.unusedSimpArgs false
namespace Go.Proofs.YtfeciafdioepiaaGreatDoor
open Go.RowKit Go.Proofs Go.Proofs.YtfeciafdioepiaaGreatDoorW.PrintWords Go.Proofs.YtfeciafdioepiaaGreatDoor.PA

theorem endL (l : List UInt8) (hl : l.length ≤ 1000000) : ∀ d k i : Nat, l.length - i = d → d < k → i ≤ l.length →
    bulletinref15_end.l0 k (mkS l) (i : Int) = some ((i + lineN (l.drop i) : Nat) : Int) := by
  intro d
  induction d with
  | zero =>
    intro k i hd hk hi
    obtain ⟨k, rfl⟩ : ∃ m, k = m + 1 := ⟨k - 1, by omega⟩
    have h1 : l.drop i = [] := List.drop_eq_nil_of_le (by omega)
    unfold bulletinref15_end.l0
    rw [if_neg (by rw [mkS_size]; omega), h1]
    simp [lineN, spanL]
  | succ d ih =>
    intro k i hd hk hi
    obtain ⟨k, rfl⟩ : ∃ m, k = m + 1 := ⟨k - 1, by omega⟩
    have hlt : i < l.length := by omega
    have h1 : l.drop i = l[i] :: l.drop (i + 1) := List.drop_eq_getElem_cons hlt
    unfold bulletinref15_end.l0
    rw [if_pos (by rw [mkS_size]; omega), if_pos (by omega), bt_mk l i hlt]
    by_cases hc : l[i] = 10
    · rw [if_pos (by rw [hc]; rfl), h1]
      simp [lineN, spanL, notNl, hc]
    · rw [if_neg (fun h => hc ((toNat_int l[i] 10 (by omega)).1 h)), wrap64_small (by omega) (by omega)]
      have := ih k (i + 1) (by omega) (by omega) (by omega)
      rw [show ((i : Int) + 1) = ((i + 1 : Nat) : Int) by omega, this, h1]
      have h2 : lineN (l[i] :: l.drop (i + 1)) = lineN (l.drop (i + 1)) + 1 := by
        have hn : notNl l[i] = true := by simp [notNl, hc]
        simp [lineN, spanL, hn]
      rw [h2]
      congr 2
      omega
theorem endF (l : List UInt8) (hl : l.length ≤ 1000000) (k i : Nat) (hk : l.length - i < k) (hi : i ≤ l.length) : bulletinref15_end.f k (mkS l) (i : Int) = some ((i + lineN (l.drop i) : Nat) : Int) :=
  endL l hl _ k i rfl hk hi
end Go.Proofs.YtfeciafdioepiaaGreatDoor
set_option linter.unusedVariables false
set_option linter.unusedSimpArgs false
namespace Go.Proofs.YtfeciafdioepiaaGreatDoor
open Go.RowKit Go.Proofs Go.Proofs.YtfeciafdioepiaaGreatDoorW.PrintWords Go.Proofs.YtfeciafdioepiaaGreatDoorW.PrintMore Go.Proofs.YtfeciafdioepiaaGreatDoor.PA

theorem Ev.of_mono {α : Type} {f : Nat → Option α} (hm : ∀ k, LeO (f k) (f (k + 1))) {K : Nat} {r : α} (h : f K = some r) : Ev f r := by
  refine ⟨K, fun k hk => ?_⟩
  obtain ⟨m, rfl⟩ : ∃ m, k = K + m := ⟨k - K, by omega⟩
  clear hk
  induction m with
  | zero => exact h
  | succ m ih => exact hm _ _ ih
theorem begins_one (c : UInt8) : ∃ v : Int, Ev (fun k => bulletinref03_Begins.f k (mkS [c])) (decide (sizeU c ≠ 0), (sizeU c : Int), v) := by
  have h : (bulletinref03_Begins.f 8 (mkS [c])).map (fun x => (x.1, x.2.1)) = some (decide (sizeU c ≠ 0), (sizeU c : Int)) := by
    refine all_u8 (P := fun c => (bulletinref03_Begins.f 8 (mkS [c])).map (fun x => (x.1, x.2.1)) = some (decide (sizeU c ≠ 0), (sizeU c : Int))) ?_ c
    decide +kernel
  cases hb : bulletinref03_Begins.f 8 (mkS [c]) with
  | none => rw [hb] at h; cases h
  | some x =>
    obtain ⟨b, n, v⟩ := x
    rw [hb] at h
    injection h with h
    injection h with h1 h2
    subst h1 h2
    generalize mkS [c] = s at *
    exact ⟨v, Ev.of_mono (f := fun k => bulletinref03_Begins.f k s) (fun k => bulletinref03_Begins.mono _ _) hb⟩
theorem lead_fix (c : UInt8) : sizeU c ≠ 0 → bulletinref03_lead.f 4 (c.toNat : Int) = some ((sizeU c : Int), ((c.toNat % modU (sizeU c) : Nat) : Int)) := by
  have key : ∀ c : UInt8, sizeU c ≠ 0 → bulletinref03_lead.f 4 (c.toNat : Int) = some ((sizeU c : Int), ((c.toNat % modU (sizeU c) : Nat) : Int)) := by
    apply all_u8
    decide +kernel
  exact key c
theorem lead_one (c : UInt8) (h : sizeU c ≠ 0) : Ev (fun k => bulletinref03_lead.f k (c.toNat : Int)) ((sizeU c : Int), ((c.toNat % modU (sizeU c) : Nat) : Int)) := by
  have hf := lead_fix c h
  generalize (c.toNat % modU (sizeU c) : Nat) = m at *
  generalize (sizeU c : Int) = s at *
  generalize (c.toNat : Int) = x at *
  exact Ev.of_mono (f := fun k => bulletinref03_lead.f k x) (fun k => bulletinref03_lead.mono _ _) hf
theorem least_n (n : Nat) (h1 : 1 ≤ n) (h4 : n ≤ 4) : bulletinref03_least.f (n : Int) = some (minU n : Int) := by
  have : n = 1 ∨ n = 2 ∨ n = 3 ∨ n = 4 := by omega
  rcases this with rfl | rfl | rfl | rfl <;> rfl
theorem most_n (n : Nat) (h1 : 1 ≤ n) (h4 : n ≤ 4) : bulletinref03_most.f (n : Int) = some (maxU n : Int) := by
  have : n = 1 ∨ n = 2 ∨ n = 3 ∨ n = 4 := by omega
  rcases this with rfl | rfl | rfl | rfl <;> rfl
theorem modU_le (n : Nat) : modU n ≤ 128 ∧ 0 < modU n := by
  unfold modU; split <;> omega
theorem min_le_max (n : Nat) : minU n ≤ maxU n ∧ maxU n ≤ 1114111 := by
  unfold minU maxU; split <;> omega

theorem l1_some (n : Nat) (h1 : 1 ≤ n) (h4 : n ≤ 4) (v : Int) : ∀ d i : Nat, n - i = d → ∀ lo hi : Int, ∃ R, Ev (fun k => bulletinref03_Begins.l1 k (n : Int) v lo hi (i : Int)) R := by
  intro d
  induction d with
  | zero =>
    intro i hd lo hi
    have key : ∀ R, Ev (fun _ : Nat => if mx lo (minU n : Int) ≥ 55296 then (if mn hi (maxU n : Int) ≤ 57343 then (some (false, 0, 0)) else (if mx lo (minU n : Int) > mn hi (maxU n : Int) then (some (false, 0, 0)) else (some (true, (n : Int), v)))) else (if mx lo (minU n : Int) > mn hi (maxU n : Int) then (some (false, 0, 0)) else (some (true, (n : Int), v)))) R → ∃ R, Ev (fun k => bulletinref03_Begins.l1 k (n : Int) v lo hi (i : Int)) R := by
      intro R hR
      refine ⟨R, Ev.next ?_⟩
      simp only [bulletinref03_Begins.l1]
      refine Ev.ite_neg (by omega) ?_
      rw [least_n n h1 h4, most_n n h1 h4]
      exact hR
    by_cases h5 : mx lo (minU n : Int) ≥ 55296
    · by_cases h6 : mn hi (maxU n : Int) ≤ 57343
      · exact key _ (Ev.ite_pos h5 (Ev.ite_pos h6 (Ev.const rfl)))
      · by_cases h7 : mx lo (minU n : Int) > mn hi (maxU n : Int)
        · exact key _ (Ev.ite_pos h5 (Ev.ite_neg h6 (Ev.ite_pos h7 (Ev.const rfl))))
        · exact key _ (Ev.ite_pos h5 (Ev.ite_neg h6 (Ev.ite_neg h7 (Ev.const rfl))))
    · by_cases h7 : mx lo (minU n : Int) > mn hi (maxU n : Int)
      · exact key _ (Ev.ite_neg h5 (Ev.ite_pos h7 (Ev.const rfl)))
      · exact key _ (Ev.ite_neg h5 (Ev.ite_neg h7 (Ev.const rfl)))
  | succ d ih =>
    intro i hd lo hi
    obtain ⟨R, h⟩ := ih (i + 1) (by omega) (wrap64 (64 * lo)) (wrap64 ((wrap64 (64 * hi)) + 63))
    refine ⟨R, Ev.next ?_⟩
    simp only [bulletinref03_Begins.l1]
    refine Ev.ite_pos (by omega) ?_
    rw [wrap_nat i (by omega)]
    exact h
theorem l1_full (n : Nat) (h1 : 1 ≤ n) (h4 : n ≤ 4) (v : Nat) : Ev (fun k => bulletinref03_Begins.l1 k (n : Int) (v : Int) (v : Int) (v : Int) (n : Int)) (if okVal n v then (true, (n : Int), (v : Int)) else (false, 0, 0)) := by
  refine Ev.next ?_
  simp only [bulletinref03_Begins.l1]
  refine Ev.ite_neg (by omega) ?_
  rw [least_n n h1 h4, most_n n h1 h4]
  simp only [Option.bind_some]
  obtain ⟨hm, hM⟩ := min_le_max n
  have hok : okVal n v = true ↔ (minU n ≤ v ∧ v ≤ maxU n ∧ ¬ (55296 ≤ v ∧ v ≤ 57343)) := by
    unfold okVal
    simp only [Bool.and_eq_true, decide_eq_true_iff, Bool.not_eq_true', Bool.and_eq_false_iff, decide_eq_false_iff_not]
    omega
  generalize minU n = a at *
  generalize maxU n = b at *
  have e1 : mx (v : Int) (a : Int) = ((max v a : Nat) : Int) := by unfold mx; split <;> omega
  have e2 : mn (v : Int) (b : Int) = ((min v b : Nat) : Int) := by unfold mn; split <;> omega
  rw [e1, e2]
  by_cases h : okVal n v = true
  · rw [if_pos h]
    have h' := hok.1 h
    by_cases h5 : ((max v a : Nat) : Int) ≥ 55296
    · exact Ev.ite_pos h5 (Ev.ite_neg (by omega) (Ev.ite_neg (by omega) (Ev.const rfl)))
    · exact Ev.ite_neg h5 (Ev.ite_neg (by omega) (Ev.const rfl))
  · rw [if_neg h]
    have h' : ¬ (a ≤ v ∧ v ≤ b ∧ ¬ (55296 ≤ v ∧ v ≤ 57343)) := fun x => h (hok.2 x)
    by_cases h5 : ((max v a : Nat) : Int) ≥ 55296
    · refine Ev.ite_pos h5 ?_
      by_cases h6 : ((min v b : Nat) : Int) ≤ 57343
      · exact Ev.ite_pos h6 (Ev.const rfl)
      · exact Ev.ite_neg h6 (Ev.ite_pos (by omega) (Ev.const rfl))
    · exact Ev.ite_neg h5 (Ev.ite_pos (by omega) (Ev.const rfl))
theorem wrap64_mid {x : Int} (h0 : 0 ≤ x) (h1 : x ≤ 1000000000000) : wrap64 x = x := by unfold wrap64; omega
theorem wrap_digit (v c : Nat) (hv : v ≤ 33554432) (h1 : 128 ≤ c) (h2 : c ≤ 191) : wrap64 ((wrap64 ((wrap64 (64 * (v : Int))) + (wrap64 (c : Int)))) - 128) = ((v * 64 + c % 64 : Nat) : Int) := by
  rw [wrap64_mid (x := 64 * (v : Int)) (by omega) (by omega), wrap64_mid (x := (c : Int)) (by omega) (by omega), wrap64_mid (x := 64 * (v : Int) + (c : Int)) (by omega) (by omega), wrap64_mid (by omega) (by omega)]
  omega
theorem cont_int (b : UInt8) : isCont b = true ↔ (128 ≤ b.toNat ∧ b.toNat ≤ 191) := by
  unfold isCont
  have := b.toNat_lt
  rw [decide_eq_true_iff]; omega
/-- The rounds over the bytes that follow. -/
theorem l0_rounds (l : List UInt8) (hl : l.length ≤ 4) (n : Nat) : ∀ d i v : Nat, l.length - i = d → i ≤ l.length → (v + 1) * 64 ^ d ≤ 33554432 → ∀ R,
    ((l.drop i).all isCont = true → Ev (fun k => bulletinref03_Begins.l1 k (n : Int) (((l.drop i).foldl (fun v b => v * 64 + b.toNat % 64) v : Nat) : Int) (((l.drop i).foldl (fun v b => v * 64 + b.toNat % 64) v : Nat) : Int) (((l.drop i).foldl (fun v b => v * 64 + b.toNat % 64) v : Nat) : Int) (l.length : Int)) R) →
    Ev (fun k => bulletinref03_Begins.l0 k (mkS l) (n : Int) (v : Int) (i : Int)) (if (l.drop i).all isCont then R else (false, 0, 0)) := by
  intro d
  induction d with
  | zero =>
    intro i v hd hi hv R hR
    have h0 : l.drop i = [] := List.drop_eq_nil_of_le (by omega)
    rw [h0] at hR ⊢
    refine Ev.next ?_
    simp only [bulletinref03_Begins.l0, mkS_size]
    refine Ev.ite_neg (by omega) ?_
    exact hR rfl
  | succ d ih =>
    intro i v hd hi hv R hR
    have hlt : i < l.length := by omega
    have hdr : l.drop i = l[i] :: l.drop (i + 1) := List.drop_eq_getElem_cons hlt
    have hp : 64 ^ (d + 1) = 64 ^ d * 64 := Nat.pow_succ ..
    have hp0 : 0 < 64 ^ d := Nat.pow_pos (by omega)
    have hb := l[i].toNat_lt
    have hv1 : (v + 1) * 64 ≤ 33554432 := by
      refine Nat.le_trans ?_ hv
      rw [hp, ← Nat.mul_assoc]
      exact Nat.mul_le_mul_right 64 (Nat.le_mul_of_pos_right _ hp0)
    have hv2 : (v * 64 + l[i].toNat % 64 + 1) * 64 ^ d ≤ 33554432 := by
      refine Nat.le_trans ?_ hv
      rw [hp, Nat.mul_comm (64 ^ d) 64, ← Nat.mul_assoc]
      exact Nat.mul_le_mul_right _ (by omega)
    refine Ev.next ?_
    simp only [bulletinref03_Begins.l0, mkS_size]
    refine Ev.ite_pos (by omega) (Ev.ite_pos (by omega) ?_)
    rw [bt_mk l i hlt, hdr, List.all_cons]
    by_cases hc : isCont l[i] = true
    · have hc' := (cont_int _).1 hc
      refine Ev.ite_neg (by omega) (Ev.ite_neg (by omega) ?_)
      rw [wrap_digit v l[i].toNat (by omega) hc'.1 hc'.2, wrap_nat i (by omega), hc, Bool.true_and]
      refine ih (i + 1) _ (by omega) (by omega) hv2 R ?_
      intro ha
      have := hR (by rw [hdr, List.all_cons, hc, ha]; rfl)
      rw [hdr] at this
      exact this
    · have hc' : ¬ (128 ≤ l[i].toNat ∧ l[i].toNat ≤ 191) := fun x => hc ((cont_int _).2 x)
      have hcf : isCont l[i] = false := by simpa using hc
      rw [hcf, Bool.false_and]
      by_cases h1 : (l[i].toNat : Int) < 128
      · exact Ev.ite_pos h1 (Ev.const rfl)
      · exact Ev.ite_neg h1 (Ev.ite_pos (by omega) (Ev.const rfl))
theorem pow64 (d : Nat) (h : d ≤ 3) : 64 ^ d ≤ 262144 := by
  have : d = 0 ∨ d = 1 ∨ d = 2 ∨ d = 3 := by omega
  rcases this with rfl | rfl | rfl | rfl <;> decide
theorem begins_gen (c : UInt8) (t : List UInt8) (h : sizeU c ≠ 0) (hl : (c :: t).length ≤ sizeU c) (R : Bool × Int × Int)
    (hR : t.all isCont = true → Ev (fun k => bulletinref03_Begins.l1 k (sizeU c : Int) ((valL (modU (sizeU c)) (c :: t) : Nat) : Int) ((valL (modU (sizeU c)) (c :: t) : Nat) : Int) ((valL (modU (sizeU c)) (c :: t) : Nat) : Int) ((c :: t).length : Int)) R) :
    Ev (fun k => bulletinref03_Begins.f k (mkS (c :: t))) (if t.all isCont then R else (false, 0, 0)) := by
  have hs := (sizeU_of c).1
  have hlc : (c :: t).length = t.length + 1 := rfl
  have hb : bt (mkS (c :: t)) 0 = (c.toNat : Int) := bt_mk (c :: t) 0 (by omega)
  have hm := modU_le (sizeU c)
  unfold bulletinref03_Begins.f
  simp only [mkS_size]
  rw [hb]
  refine Ev.ite_pos (by omega) (Ev.bind (lead_one c h) ?_)
  refine Ev.ite_neg (by omega) ?_
  have hd : decide (((c :: t).length : Int) > (sizeU c : Int)) = false := decide_eq_false (by omega)
  rw [hd]
  refine Ev.next ?_
  simp only [bulletinref03_Begins.j0]
  refine Ev.ite_neg (by simp) ?_
  have hv : c.toNat % modU (sizeU c) < modU (sizeU c) := Nat.mod_lt _ hm.2
  have hv2 : c.toNat % modU (sizeU c) + 1 ≤ 128 := by omega
  have := l0_rounds (c :: t) (by omega) (sizeU c) ((c :: t).length - 1) 1 (c.toNat % modU (sizeU c)) rfl (by omega)
    (Nat.le_trans (Nat.mul_le_mul hv2 (pow64 _ (by omega))) (by omega)) R (fun ha => hR ha)
  exact this
theorem begins_full (c : UInt8) (t : List UInt8) (h : sizeU c ≠ 0) (hl : (c :: t).length = sizeU c) :
    ∃ v : Int, Ev (fun k => bulletinref03_Begins.f k (mkS (c :: t))) (okAll (sizeU c) (c :: t), (if okAll (sizeU c) (c :: t) then (sizeU c : Int) else 0), v) ∧ (okAll (sizeU c) (c :: t) = true → v = ((valL (modU (sizeU c)) (c :: t) : Nat) : Int)) := by
  have hs := (sizeU_of c).1
  have hlc : (c :: t).length = t.length + 1 := rfl
  have hg := begins_gen c t h (by omega) _ (fun _ => by rw [hl]; exact l1_full (sizeU c) (by omega) (by omega) (valL (modU (sizeU c)) (c :: t)))
  have hok : okAll (sizeU c) (c :: t) = (t.all isCont && okVal (sizeU c) (valL (modU (sizeU c)) (c :: t))) := rfl
  by_cases h1 : t.all isCont = true
  · by_cases h2 : okVal (sizeU c) (valL (modU (sizeU c)) (c :: t)) = true
    · rw [hok, h1, h2]
      rw [if_pos h1, if_pos h2] at hg
      exact ⟨_, hg, fun _ => rfl⟩
    · have h2' : okVal (sizeU c) (valL (modU (sizeU c)) (c :: t)) = false := by simpa using h2
      rw [hok, h1, h2']
      rw [if_pos h1, if_neg h2] at hg
      exact ⟨_, hg, fun h => by simp at h⟩
  · have h1' : t.all isCont = false := by simpa using h1
    rw [hok, h1']
    rw [if_neg h1] at hg
    exact ⟨_, hg, fun h => by simp at h⟩
theorem begins_part (c : UInt8) (t : List UInt8) (h : sizeU c ≠ 0) (hl : (c :: t).length ≤ sizeU c) : ∃ R, Ev (fun k => bulletinref03_Begins.f k (mkS (c :: t))) R := by
  have hs := (sizeU_of c).1
  obtain ⟨R, hR⟩ := l1_some (sizeU c) (by omega) (by omega) ((valL (modU (sizeU c)) (c :: t) : Nat) : Int) _ (c :: t).length rfl ((valL (modU (sizeU c)) (c :: t) : Nat) : Int) ((valL (modU (sizeU c)) (c :: t) : Nat) : Int)
  exact ⟨_, begins_gen c t h hl R (fun _ => hR)⟩
/-- The reference's First. -/
def FirstRes (l : List UInt8) (R : Int × Int × Int) : Prop := match decR l with
  | some (v, n) => R = ((v : Int), (n : Int), 0)
  | none => R.2.2 ≠ 0
theorem refFirst (l : List UInt8) (h0 : l ≠ []) : ∃ R, Ev (fun k => bulletinref03_First.f k (mkS l)) R ∧ FirstRes l R := by
  obtain ⟨c, t, rfl⟩ : ∃ c t, l = c :: t := by
    cases l with
    | nil => exact absurd rfl h0
    | cons c t => exact ⟨c, t, rfl⟩
  have hs := (sizeU_of c).1
  have hlc : (c :: t).length = t.length + 1 := rfl
  have e1 : (mkS (c :: t)).extract 0 1 = mkS [c] := by rw [extract_mk, mkS_toList]; rfl
  obtain ⟨v1, h1⟩ := begins_one c
  unfold bulletinref03_First.f
  simp only [mkS_size]
  rw [e1]
  by_cases hz : sizeU c = 0
  · have hd : decR (c :: t) = none := by simp only [decR]; rw [if_pos (.inl hz)]
    refine ⟨(0, 0, 6), ?_, by unfold FirstRes; rw [hd]; decide⟩
    refine Ev.ite_pos (by omega) (Ev.ite_pos (by omega) (Ev.bind h1 (Ev.ite_neg ?_ (Ev.const rfl))))
    simp [hz]
  · by_cases hn : sizeU c ≤ (c :: t).length
    · have e2 : (mkS (c :: t)).extract 0 ((sizeU c : Int)).toNat = mkS ((c :: t).take (sizeU c)) := by rw [extract_mk, mkS_toList, Int.toNat_natCast]; rfl
      have ht : (c :: t).take (sizeU c) = c :: t.take (sizeU c - 1) := by
        conv => lhs; rw [show sizeU c = (sizeU c - 1) + 1 by omega]
        rfl
      have htl : (c :: t.take (sizeU c - 1)).length = sizeU c := by rw [← ht, List.length_take]; omega
      obtain ⟨v2, h2, h3⟩ := begins_full c (t.take (sizeU c - 1)) hz htl
      rw [← ht] at h2 h3
      have hd : decR (c :: t) = if okAll (sizeU c) ((c :: t).take (sizeU c)) then some (valL (modU (sizeU c)) ((c :: t).take (sizeU c)), sizeU c) else none := by
        simp only [decR]; rw [if_neg (by omega)]
      rw [← e2] at h2
      by_cases hok : okAll (sizeU c) ((c :: t).take (sizeU c)) = true
      · rw [if_pos hok] at hd
        refine ⟨(((valL (modU (sizeU c)) ((c :: t).take (sizeU c)) : Nat) : Int), (sizeU c : Int), 0), ?_, by unfold FirstRes; rw [hd]⟩
        refine Ev.ite_pos (by omega) (Ev.ite_pos (by omega) (Ev.bind h1 (Ev.ite_pos (by simp [hz]) (Ev.ite_pos (by simp only [] ; omega) (Ev.ite_pos (by simp only []; omega) (Ev.ite_pos (by simp only []; omega) ?_))))))
        refine Ev.bind h2 (Ev.ite_pos hok (Ev.const ?_))
        rw [h3 hok]
      · rw [if_neg hok] at hd
        refine ⟨(0, 0, 3), ?_, by unfold FirstRes; rw [hd]; decide⟩
        refine Ev.ite_pos (by omega) (Ev.ite_pos (by omega) (Ev.bind h1 (Ev.ite_pos (by simp [hz]) (Ev.ite_pos (by simp only [] ; omega) (Ev.ite_pos (by simp only []; omega) (Ev.ite_pos (by simp only []; omega) ?_))))))
        exact Ev.bind h2 (Ev.ite_neg hok (Ev.const rfl))
    · have hd : decR (c :: t) = none := by simp only [decR]; rw [if_pos (.inr (by omega))]
      obtain ⟨R, h2⟩ := begins_part c t hz (by omega)
      have h1n : (decide (sizeU c ≠ 0)) = true := by simp [hz]
      by_cases hr : R.1 = true
      · refine ⟨(0, 0, 23), ?_, by unfold FirstRes; rw [hd]; decide⟩
        exact Ev.ite_pos (by omega) (Ev.ite_pos (by omega) (Ev.bind h1 (Ev.ite_pos h1n (Ev.ite_neg (by simp only [] ; omega) (Ev.bind h2 (Ev.ite_pos hr (Ev.const rfl)))))))
      · refine ⟨(0, 0, 3), ?_, by unfold FirstRes; rw [hd]; decide⟩
        exact Ev.ite_pos (by omega) (Ev.ite_pos (by omega) (Ev.bind h1 (Ev.ite_pos h1n (Ev.ite_neg (by simp only [] ; omega) (Ev.bind h2 (Ev.ite_neg hr (Ev.const rfl)))))))

def AllEnd (e : Option Nat) (p c : Int) : Prop := match e with
  | none => p = 0 ∧ c = 0
  | some q => p = (q : Int) ∧ c ≠ 0
theorem refAll (l : List UInt8) (hl : l.length ≤ 1000000) : ∀ f i : Nat, l.length - i ≤ f → i ≤ l.length → ∀ rs os : List Int, rs.length ≤ i → os.length ≤ i →
    ∃ p c : Int, Ev (fun k => bulletinref03_All.l0 k (mkS l) rs os (i : Int)) (rs ++ (runesG f i (l.drop i)).1.map (fun x => (x.2 : Int)), os ++ (runesG f i (l.drop i)).1.map (fun x => (x.1 : Int)), p, c) ∧ AllEnd (runesG f i (l.drop i)).2 p c := by
  intro f
  induction f with
  | zero =>
    intro i hf hi rs os hr ho
    refine ⟨0, 0, ?_, by unfold AllEnd runesG; exact ⟨rfl, rfl⟩⟩
    refine Ev.next ?_
    simp only [bulletinref03_All.l0, mkS_size]
    refine Ev.ite_neg (by omega) (Ev.const ?_)
    simp [runesG]
  | succ f ih =>
    intro i hf hi rs os hr ho
    by_cases hlt : i < l.length
    · have hne : l.drop i ≠ [] := by
        intro h
        have := congrArg List.length h
        rw [List.length_drop] at this
        simp at this; omega
      have e1 : (mkS l).extract ((i : Int)).toNat l.length = mkS (l.drop i) := by
        rw [Int.toNat_natCast, extract_mk, mkS_toList, List.take_of_length_le]; rw [List.length_drop]; omega
      obtain ⟨R, h1, h2⟩ := refFirst (l.drop i) hne
      rw [← e1] at h1
      cases hd : decR (l.drop i) with
      | none =>
        unfold FirstRes at h2
        rw [hd] at h2
        rw [runesG_none hne hd]
        refine ⟨(i : Int), R.2.2, ?_, ⟨rfl, h2⟩⟩
        refine Ev.next ?_
        simp only [bulletinref03_All.l0, mkS_size]
        refine Ev.ite_pos (by omega) (Ev.ite_pos (by omega) (Ev.ite_pos (by omega) (Ev.bind h1 (Ev.ite_neg h2 (Ev.const ?_)))))
        simp
      | some q =>
        obtain ⟨v, n⟩ := q
        unfold FirstRes at h2
        rw [hd] at h2
        subst h2
        obtain ⟨hp1, hp2, hp3, hp4⟩ := decR_pos hd
        rw [List.length_drop] at hp2
        rw [runesG_some hd, List.drop_drop]
        obtain ⟨p, c, h3, h4⟩ := ih (i + n) (by omega) (by omega) (rs ++ [(v : Int)]) (os ++ [(i : Int)]) (by simp; omega) (by simp; omega)
        refine ⟨p, c, ?_, h4⟩
        refine Ev.next ?_
        simp only [bulletinref03_All.l0, mkS_size]
        refine Ev.ite_pos (by omega) (Ev.ite_pos (by omega) (Ev.ite_pos (by omega) (Ev.bind h1 (Ev.ite_pos rfl (Ev.ite_pos (by omega) (Ev.ite_pos (by omega) ?_))))))
        show Ev (fun k => bulletinref03_All.l0 k (mkS l) (rs ++ [(v : Int)]) (os ++ [(i : Int)]) (wrap64 ((i : Int) + (n : Int)))) _
        rw [wrap_add i n (by omega)]
        refine h3.is ?_
        simp
    · have h0 : l.drop i = [] := List.drop_eq_nil_of_le (by omega)
      rw [h0, runesG_nil]
      refine ⟨0, 0, ?_, ⟨rfl, rfl⟩⟩
      refine Ev.next ?_
      simp only [bulletinref03_All.l0, mkS_size]
      refine Ev.ite_neg (by omega) (Ev.const ?_)
      simp
theorem refControl (v : Nat) : bulletinref03_Control.f (v : Int) = some (ctrlU v) := by
  unfold bulletinref03_Control.f ctrlU
  by_cases h1 : v ≤ 31
  · rw [if_pos (by omega)]; simp [h1]
  · rw [if_neg (by omega)]
    have h1' : decide (v ≤ 31) = false := decide_eq_false h1
    by_cases h2 : 127 ≤ v
    · rw [if_pos (by omega)]
      by_cases h3 : v ≤ 159
      · rw [if_pos (by omega)]; simp [h2, h3]
      · rw [if_neg (by omega)]
        by_cases h4 : v = 8232
        · rw [if_pos (by omega)]; simp [h4]
        · rw [if_neg (by omega)]
          by_cases h5 : v = 8233
          · subst h5; rfl
          · have : ((v : Int) == 8233) = false := by rw [beq_eq_false_iff_ne]; omega
            rw [this]; simp [h1, h3, h4, h5]
    · rw [if_neg (by omega), if_neg (by omega)]
      have : ((v : Int) == 8233) = false := by rw [beq_eq_false_iff_ne]; omega
      rw [this]
      have h4 : v ≠ 8232 := by omega
      have h5 : v ≠ 8233 := by omega
      simp [h1, h2, h4, h5]
theorem rd_map {α : Type} (g : α → Int) (xs : List α) (i : Nat) (h : i < xs.length) : rd (xs.map g) (i : Int) = g xs[i] := by
  unfold rd
  rw [Int.toNat_natCast, List.getD_eq_getElem?_getD, List.getElem?_map, List.getElem?_eq_getElem h]; rfl
theorem refBadL (xs : List (Nat × Nat)) (hx : xs.length ≤ 1000000) (p c : Int) : ∀ d i : Nat, xs.length - i = d → i ≤ xs.length →
    Ev (fun k => bulletinref15_bad.l0 k (xs.map (fun x => (x.2 : Int))) (xs.map (fun x => (x.1 : Int))) p c (i : Int)) (match (xs.drop i).find? (fun x => badV x.2) with | some x => (x.1 : Int) | none => if c = 0 then -1 else p) := by
  intro d
  induction d with
  | zero =>
    intro i hd hi
    have h0 : xs.drop i = [] := List.drop_eq_nil_of_le (by omega)
    rw [h0]
    refine Ev.next ?_
    simp only [bulletinref15_bad.l0, List.length_map]
    refine Ev.ite_neg (by omega) ?_
    show Ev (fun n => if c = 0 then some (-1 : Int) else some p) (if c = 0 then -1 else p)
    by_cases h : c = 0
    · exact Ev.rpos h (Ev.ite_pos h (Ev.const rfl))
    · exact Ev.rneg h (Ev.ite_neg h (Ev.const rfl))
  | succ d ih =>
    intro i hd hi
    have hlt : i < xs.length := by omega
    have hdr : xs.drop i = xs[i] :: xs.drop (i + 1) := List.drop_eq_getElem_cons hlt
    refine Ev.next ?_
    simp only [bulletinref15_bad.l0, List.length_map]
    refine Ev.ite_pos (by omega) (Ev.ite_pos (by omega) ?_)
    rw [rd_map (fun x : Nat × Nat => (x.2 : Int)) xs i hlt, rd_map (fun x : Nat × Nat => (x.1 : Int)) xs i hlt]
    rw [refControl, wrap_nat i (by omega), hdr, List.find?_cons]
    simp only [Option.bind_some]
    by_cases h1 : ctrlU xs[i].2 = true
    · refine Ev.ite_pos h1 ?_
      by_cases h2 : xs[i].2 = 9
      · refine Ev.ite_pos (by omega) ?_
        have : badV xs[i].2 = false := by unfold badV; simp [h2]
        rw [this]
        exact ih (i + 1) (by omega) (by omega)
      · refine Ev.ite_neg (by omega) (Ev.ite_pos (by omega) (Ev.const ?_))
        have : badV xs[i].2 = true := by unfold badV; simp [h1, h2]
        rw [this]
    · refine Ev.ite_neg h1 ?_
      have : badV xs[i].2 = false := by unfold badV; simp [h1]
      rw [this]
      exact ih (i + 1) (by omega) (by omega)
theorem runesG_len (f : Nat) : ∀ k l, (runesG f k l).1.length ≤ f := by
  induction f with
  | zero => intro k l; simp [runesG]
  | succ f ih =>
    intro k l
    by_cases h0 : l = []
    · subst h0; rw [runesG_nil]; simp
    · cases hd : decR l with
      | none => rw [runesG_none h0 hd]; simp
      | some q =>
        obtain ⟨v, n⟩ := q
        rw [runesG_some hd]
        have := ih (k + n) (l.drop n)
        simp; omega
theorem refBadF (l : List UInt8) (hl : l.length ≤ 1000000) : Ev (fun k => bulletinref15_bad.f k (mkS l)) (badU l) := by
  obtain ⟨p, c, h1, h2⟩ := refAll l hl l.length 0 (by omega) (by omega) [] [] (by simp) (by simp)
  rw [List.drop_zero] at h1 h2
  have hr : runesG l.length 0 l = runesU l := rfl
  rw [hr] at h1 h2
  simp only [List.nil_append] at h1
  unfold bulletinref15_bad.f bulletinref03_All.f
  refine Ev.bind h1 ?_
  have hx : (runesU l).1.length ≤ 1000000 := Nat.le_trans (runesG_len _ _ _) hl
  refine (refBadL (runesU l).1 hx p c _ 0 rfl (by omega)).is ?_
  rw [List.drop_zero]
  unfold badU AllEnd at *
  cases hf : (runesU l).1.find? (fun x => badV x.2) with
  | some x => rfl
  | none =>
    cases he : (runesU l).2 with
    | none => rw [he] at h2; simp [h2.2]
    | some q => rw [he] at h2; simp only []; rw [if_neg h2.2, h2.1]
end Go.Proofs.YtfeciafdioepiaaGreatDoor
set_option linter.unusedVariables false
set_option linter.unusedSimpArgs false
namespace Go.Proofs.YtfeciafdioepiaaGreatDoor
open Go.RowKit Go.Proofs Go.Proofs.YtfeciafdioepiaaGreatDoorW.PrintWords Go.Proofs.YtfeciafdioepiaaGreatDoor.PA

theorem extract_line (l : List UInt8) (i : Nat) : (mkS l).extract i (i + lineN (l.drop i)) = mkS ((l.drop i).take (lineN (l.drop i))) := by
  rw [extract_mk, mkS_toList]
  congr 2
  omega
end Go.Proofs.YtfeciafdioepiaaGreatDoor
