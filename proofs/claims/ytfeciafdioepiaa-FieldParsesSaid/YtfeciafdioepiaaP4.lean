/- Plain: Of, To, Same; the reference's parser against the list parser. -/
import Derived.Test.YtfeciafdioepiaaP2
import Derived.Test.YtfeciafdioepiaaPA7
set_option linter.unusedVariables false
set_option linter.unusedSimpArgs false
namespace Go.Proofs.Ytfeciafdioepiaa
open Go.RowKit Go.Proofs Go.Proofs.YtfeciafdioepiaaW.PrintWords Go.Proofs.Ytfeciafdioepiaa.PA

/-! ### add -/
/-- Words appended to a body. -/
def addB : List UInt8 → List (List UInt8) → List UInt8
  | b, [] => b
  | b, x :: xs => addB (if b = [] then x else b ++ [32] ++ x) xs
/-- Where the first word that is too long begins. -/
def longAt (line : List UInt8) : Nat → List (List UInt8) → Option Nat
  | _, [] => none
  | i, x :: xs => if 900 < x.length then some (spanA isBlank line i) else longAt line (spanA isBlank line i + x.length) xs
theorem addB_len : ∀ (ws : List (List UInt8)) (b : List UInt8), (addB b ws).length ≤ b.length + sumL ws + ws.length
  | [], b => by simp [addB]
  | x :: xs, b => by
    have h := addB_len xs (if b = [] then x else b ++ [32] ++ x)
    have hc : sumL (x :: xs) = x.length + sumL xs := by unfold sumL; rw [List.map_cons, List.sum_cons]
    unfold addB
    by_cases hb : b = []
    · rw [if_pos hb] at h ⊢; simp only [List.length_cons]; omega
    · rw [if_neg hb] at h ⊢; simp only [List.length_cons, List.length_append, List.length_nil] at h ⊢; omega
/-- The text up to an offset. -/
theorem take_get (text : List UInt8) (e i : Nat) (h : i < e) (he : e ≤ text.length) : (text.take e)[i]'(by rw [List.length_take]; omega) = text[i] := by
  rw [List.getElem_take]
theorem add_scan (text : List UInt8) (hl : text.length ≤ 1000000) (e : Nat) (he : e ≤ text.length) (b : List UInt8) (i : Nat) (hi : i < e) (R : ByteArray × Int)
    (hj : Ev (fun k => bulletinref09_add.j2 k (mkS b) (mkS text) (e : Int) (i : Int) ((spanA (fun c => !isBlank c) (text.take e) i : Nat) : Int)) R) :
    ∀ d j : Nat, e - j = d → i ≤ j → j ≤ e → spanA (fun c => !isBlank c) (text.take e) j = spanA (fun c => !isBlank c) (text.take e) i →
    Ev (fun k => bulletinref09_add.l1 k (mkS b) (mkS text) (e : Int) (i : Int) (j : Int)) R := by
  have hs := mkS_size text
  have hLl : (text.take e).length = e := by rw [List.length_take]; omega
  have Hj := Lib.hid hj
  clear hj
  intro d
  induction d with
  | zero =>
    intro j hd hij hje hsp
    have Hsp := Lib.hid hsp
    clear hsp
    refine Ev.next ?_
    simp only [bulletinref09_add.l1]
    refine Ev.ite_neg (by omega) ?_
    have hst := spanA_stop (p := fun c => !isBlank c) (l := text.take e) (i := j) (by omega)
    have hj := Hj.out
    rw [← Hsp.out, hst] at hj
    exact hj
  | succ d ih =>
    intro j hd hij hje hsp
    have Hsp := Lib.hid hsp
    clear hsp
    have hlt : j < e := by omega
    have h1 : e - (j + 1) = d := by omega
    have h2 : i ≤ j + 1 := by omega
    have h3 : j + 1 ≤ e := by omega
    have h4 : j < (text.take e).length := by omega
    have h5 : j < text.length := by omega
    have hw := wrap_nat j (by omega)
    refine Ev.next ?_
    simp only [bulletinref09_add.l1]
    rw [bt_mk text j h5, rBlankF, hw]
    clear hw
    simp only [Option.bind_some]
    refine Ev.ite_pos (by omega) (Ev.ite_pos (by omega) (Ev.ite_pos (by omega) ?_))
    have hg := take_get text e j hlt he
    by_cases hb : isBlank text[j] = true
    · refine Ev.ite_pos hb ?_
      have hno := spanA_no (p := fun c => !isBlank c) (l := text.take e) h4 (by rw [hg]; simp [hb])
      have hj := Hj.out
      rw [← Hsp.out, hno] at hj
      exact hj
    · refine Ev.ite_neg hb (ih (j + 1) h1 h2 h3 ?_)
      rw [← Hsp.out]
      exact (spanA_yes (p := fun c => !isBlank c) (l := text.take e) h4 (by rw [hg]; simpa using hb)).symm
theorem addLoop (text : List UInt8) (hl : text.length ≤ 1000000) (e : Nat) (he : e ≤ text.length) : ∀ d i : Nat, e - i ≤ d → i ≤ e → ∀ b : List UInt8, b.length ≤ 2000000 + 2 * i →
    (longAt (text.take e) i (wordsL ((text.take e).drop i)) = none → Ev (fun k => bulletinref09_add.l0 k (mkS b) (mkS text) (e : Int) (i : Int)) (mkS (addB b (wordsL ((text.take e).drop i))), -1)) ∧
    (∀ p : Nat, longAt (text.take e) i (wordsL ((text.take e).drop i)) = some p → ∃ bb : ByteArray, Ev (fun k => bulletinref09_add.l0 k (mkS b) (mkS text) (e : Int) (i : Int)) (bb, (p : Int))) := by
  have hs := mkS_size text
  have hLl : (text.take e).length = e := by rw [List.length_take]; omega
  intro d
  induction d with
  | zero =>
    intro i hd hi b hb
    have hie : i = e := by omega
    have hw0 : wordsL ((text.take e).drop i) = [] := words_end (by omega)
    rw [hw0]
    refine ⟨fun _ => ?_, fun p hp => by cases hp⟩
    refine Ev.next ?_
    simp only [bulletinref09_add.l0]
    exact Ev.ite_neg (by omega) (Ev.const rfl)
  | succ d ih =>
    intro i hd hi b hb
    by_cases hie : i = e
    · have hw0 : wordsL ((text.take e).drop i) = [] := words_end (by omega)
      rw [hw0]
      refine ⟨fun _ => ?_, fun p hp => by cases hp⟩
      refine Ev.next ?_
      simp only [bulletinref09_add.l0]
      exact Ev.ite_neg (by omega) (Ev.const rfl)
    have hlt : i < e := by omega
    have hit : i < text.length := by omega
    have hiL : i < (text.take e).length := by omega
    have hg := take_get text e i hlt he
    by_cases hbl : isBlank text[i] = true
    · have hsp := spanA_yes (p := isBlank) (l := text.take e) (i := i) hiL (by rw [hg]; exact hbl)
      have hww : wordsL ((text.take e).drop i) = wordsL ((text.take e).drop (i + 1)) := by rw [← words_at, hsp, words_at]
      have hla : ∀ ws, longAt (text.take e) i ws = longAt (text.take e) (i + 1) ws := by
        intro ws
        cases ws with
        | nil => rfl
        | cons x xs => unfold longAt; rw [hsp]
      clear hsp
      obtain ⟨i1, i2⟩ := ih (i + 1) (by omega) (by omega) b (by omega)
      rw [hww, hla]
      have hstep : ∀ R, Ev (fun k => bulletinref09_add.l0 k (mkS b) (mkS text) (e : Int) ((i + 1 : Nat) : Int)) R → Ev (fun k => bulletinref09_add.l0 k (mkS b) (mkS text) (e : Int) (i : Int)) R := by
        intro R hR
        have hw := wrap_nat i (by omega)
        refine Ev.next ?_
        simp only [bulletinref09_add.l0]
        rw [bt_mk text i hit, rBlankF, hw]
        clear hw
        simp only [Option.bind_some]
        exact Ev.ite_pos (by omega) (Ev.ite_pos (by omega) (Ev.ite_pos (by omega) (Ev.ite_pos hbl hR)))
      exact ⟨fun h => hstep _ (i1 h), fun p hp => by obtain ⟨bb, hbb⟩ := i2 p hp; exact ⟨bb, hstep _ hbb⟩⟩
    · have hbf : isBlank (text.take e)[i] = false := by rw [hg]; simpa using hbl
      have hnx := words_next (l := text.take e) (i := i) hiL hbf
      have hpos := spanA_pos (l := text.take e) (i := i) hiL hbf
      have hsa := (spanA_le (p := fun c => !isBlank c) (l := text.take e) (i := i) (Nat.le_of_lt hiL)).2
      have Hsi := Lib.hid (spanA_no (p := isBlank) (l := text.take e) (i := i) hiL hbf)
      have hscan := add_scan text hl e he b i hlt
      generalize hq : spanA (fun c => !isBlank c) (text.take e) i = q at *
      have Hq := Lib.hid hq
      clear hq
      have hx : ((text.take e).drop i).take (q - i) = (text.drop i).take (q - i) := by
        rw [List.drop_take, List.take_take]; congr 1; omega
      have hxl : (((text.take e).drop i).take (q - i)).length = q - i := by rw [List.length_take, List.length_drop]; omega
      rw [hnx]
      have hla : ∀ xs, longAt (text.take e) i (((text.take e).drop i).take (q - i) :: xs) = if 900 < q - i then some i else longAt (text.take e) q xs := by
        intro xs
        show (if 900 < (((text.take e).drop i).take (q - i)).length then some (spanA isBlank (text.take e) i) else longAt (text.take e) (spanA isBlank (text.take e) i + (((text.take e).drop i).take (q - i)).length) xs) = _
        rw [hxl, Hsi.out, show i + (q - i) = q by omega]
      rw [hla]
      have Hwr := Lib.hid (show wrap64 ((q : Int) - (i : Int)) = ((q - i : Nat) : Int) by unfold wrap64; omega)
      have hstep : ∀ R, Ev (fun k => bulletinref09_add.j2 k (mkS b) (mkS text) (e : Int) (i : Int) (q : Int)) R → Ev (fun k => bulletinref09_add.l0 k (mkS b) (mkS text) (e : Int) (i : Int)) R := by
        intro R hR
        refine Ev.next ?_
        simp only [bulletinref09_add.l0]
        rw [bt_mk text i hit, rBlankF]
        simp only [Option.bind_some]
        exact Ev.ite_pos (by omega) (Ev.ite_pos (by omega) (Ev.ite_pos (by omega) (Ev.ite_neg hbl (hscan R hR _ i rfl (by omega) (by omega) Hq.out))))
      by_cases h9 : 900 < q - i
      · rw [if_pos h9]
        refine ⟨fun h => (by cases h), fun p hp => ⟨mkS b, hstep _ ?_⟩⟩
        injection hp with hp
        subst hp
        refine Ev.next ?_
        simp only [bulletinref09_add.j2]
        rw [Hwr.out]
        exact Ev.ite_pos (by omega) (Ev.const rfl)
      · rw [if_neg h9]
        have hext : (mkS text).extract ((i : Int)).toNat ((q : Int)).toNat = mkS (((text.take e).drop i).take (q - i)) := by
          rw [Int.toNat_natCast, Int.toNat_natCast, extract_mk, mkS_toList, hx]
        have hnext : ∀ R, Ev (fun k => bulletinref09_add.l0 k (mkS (if b = [] then ((text.take e).drop i).take (q - i) else b ++ [32] ++ ((text.take e).drop i).take (q - i))) (mkS text) (e : Int) (q : Int)) R →
            Ev (fun k => bulletinref09_add.l0 k (mkS b) (mkS text) (e : Int) (i : Int)) R := by
          intro R hR
          refine hstep R (Ev.next ?_)
          simp only [bulletinref09_add.j2]
          rw [Hwr.out, hext, toList_mk]
          refine Ev.ite_neg (by omega) ?_
          by_cases hb0 : b = []
          · subst hb0
            rw [if_pos rfl] at hR
            refine Ev.ite_pos rfl (Ev.ite_pos (by omega) (Ev.ite_pos (by omega) (Ev.ite_pos (by omega) ?_)))
            have h6 : (mkS []).size + (mkS (((text.take e).drop i).take (q - i))).size ≤ 9223372036854775807 := by rw [mkS_size, mkS_size, hxl]; simp; omega
            refine Ev.ite_pos h6 ?_
            rw [mkS_append, List.nil_append]
            exact hR
          · rw [if_neg hb0] at hR
            have h7 : (mkS b).size + 1 ≤ 9223372036854775807 := by rw [mkS_size]; omega
            have h6 : (mkS (b ++ [32])).size + (mkS (((text.take e).drop i).take (q - i))).size ≤ 9223372036854775807 := by rw [mkS_size, mkS_size, hxl, List.length_append, List.length_singleton]; omega
            refine Ev.ite_neg hb0 (Ev.ite_pos h7 (Ev.ite_pos (by omega) (Ev.ite_pos (by omega) (Ev.ite_pos (by omega) ?_))))
            rw [mkS_one, mkS_append]
            refine Ev.ite_pos h6 ?_
            rw [mkS_append]
            exact hR
        obtain ⟨i1, i2⟩ := ih q (by omega) (by omega) (if b = [] then ((text.take e).drop i).take (q - i) else b ++ [32] ++ ((text.take e).drop i).take (q - i)) (by
          split
          · rw [hxl]; omega
          · simp only [List.length_append, hxl, List.length_singleton]; omega)
        exact ⟨fun h => hnext _ (i1 h), fun p hp => by obtain ⟨bb, hbb⟩ := i2 p hp; exact ⟨bb, hnext _ hbb⟩⟩
end Go.Proofs.Ytfeciafdioepiaa
