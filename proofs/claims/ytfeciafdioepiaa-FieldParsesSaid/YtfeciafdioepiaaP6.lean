/- Plain: the reference's parser does what the list parser does. -/
import Derived.Test.YtfeciafdioepiaaP5
import Derived.Test.YtfeciafdioepiaaPA8
set_option linter.unusedVariables false
set_option linter.unusedSimpArgs false
namespace Go.Proofs.Ytfeciafdioepiaa
open Go.RowKit Go.Proofs Go.Proofs.YtfeciafdioepiaaW.PrintWords Go.Proofs.Ytfeciafdioepiaa.PA

def toR (f : Fld) : S25 := ⟨mkS f.name, mkS f.body⟩
theorem byte10 (c : UInt8) : ((c.toNat : Int) = 10) ↔ c = 10 := toNat_int c 10 (by omega)
theorem byte58 (c : UInt8) : ((c.toNat : Int) = 58) ↔ c = 58 := toNat_int c 58 (by omega)
abbrev PR := (List S25) × Int × Int

theorem scan_nl (text : List UInt8) (hl : text.length ≤ 65536) (xs : List S25) (pos : Nat) (R : PR) (q : Nat)
    (hj : Ev (fun k => bulletinref09_Parse.j2 k (mkS text) xs (pos : Int) (q : Int)) R) :
    ∀ d j : Nat, text.length - j = d → j ≤ text.length → Hid (spanA notNl text j = q) → Ev (fun k => bulletinref09_Parse.l1 k (mkS text) xs (pos : Int) (j : Int)) R := by
  have hs := mkS_size text
  intro d
  induction d with
  | zero =>
    intro j hd hj2 hsp
    have e := spanA_stop (p := notNl) (l := text) (i := j) (by omega)
    rw [← hsp.out, e] at hj
    refine Ev.next ?_
    simp only [bulletinref09_Parse.l1]
    exact Ev.ite_neg (by omega) hj
  | succ d ih =>
    intro j hd hj2 hsp
    have hlt : j < text.length := by omega
    refine Ev.next ?_
    simp only [bulletinref09_Parse.l1]
    rw [bt_mk text j hlt, wrap_nat j (by omega)]
    refine Ev.ite_pos (by omega) (Ev.ite_pos (by omega) ?_)
    by_cases h10 : text[j] = 10
    · have e := spanA_no (p := notNl) (l := text) (i := j) hlt (by unfold notNl; simp [h10])
      rw [← hsp.out, e] at hj
      exact Ev.ite_pos ((byte10 _).2 h10) hj
    · have e := spanA_yes (p := notNl) (l := text) (i := j) hlt (by unfold notNl; simpa using h10)
      exact Ev.ite_neg (fun h => h10 ((byte10 _).1 h)) (ih (j + 1) (by omega) (by omega) (Lib.hid (e.symm.trans hsp.out)))

/-- The bytes of a line: all of them are allowed. -/
theorem bytes_ok (text : List UInt8) (hl : text.length ≤ 65536) (xs : List S25) (pos e : Nat) (he : e ≤ text.length) (R : PR) :
    ∀ d i : Nat, e - i = d → i ≤ e → Hid (spanA okByte (text.take e) i = e) → ∀ col : Int,
    Ev (fun k => bulletinref09_Parse.l2 k (mkS text) xs (pos : Int) (e : Int) (if 0 ≤ col then col else if spanA notColon (text.take e) i = e then -1 else ((spanA notColon (text.take e) i : Nat) : Int)) (e : Int)) R →
    (0 ≤ col ∨ col = -1) → Ev (fun k => bulletinref09_Parse.l2 k (mkS text) xs (pos : Int) (e : Int) col (i : Int)) R := by
  have hs := mkS_size text
  have hLl : (text.take e).length = e := by rw [List.length_take]; omega
  intro d
  induction d with
  | zero =>
    intro i hd hi hok col hE hc
    obtain rfl : i = e := by omega
    have e1 := spanA_stop (p := notColon) (l := text.take i) (i := i) (by omega)
    rw [e1, if_pos rfl] at hE
    rcases hc with h | h
    · rw [if_pos h] at hE; exact hE
    · subst h; rw [if_neg (by omega)] at hE; exact hE
  | succ d ih =>
    intro i hd hi hok col hE hc
    have hlt : i < e := by omega
    have hit : i < text.length := by omega
    have hiL : i < (text.take e).length := by omega
    have hg := take_get text e i hlt he
    have hb : okByte text[i] = true := by
      rcases Bool.eq_false_or_eq_true (okByte text[i]) with h | h
      · exact h
      · have e1 := spanA_no (p := okByte) (l := text.take e) hiL (by rw [hg]; exact h)
        have e2 := hok.out
        rw [e1] at e2
        omega
    have hok2 : Hid (spanA okByte (text.take e) (i + 1) = e) := Lib.hid ((spanA_yes (p := okByte) (l := text.take e) hiL (by rw [hg]; exact hb)).symm.trans hok.out)
    have hj : Ev (fun k => bulletinref09_Parse.j4 k (mkS text) xs (pos : Int) (e : Int) col (i : Int) false) R := by
      refine Ev.next ?_
      simp only [bulletinref09_Parse.j4]
      rw [bt_mk text i hit, wrap_nat i (by omega)]
      refine Ev.ite_neg (by simp) (Ev.ite_pos (by omega) (Ev.ite_pos (by omega) ?_))
      by_cases h58 : text[i] = 58
      · have e1 := spanA_no (p := notColon) (l := text.take e) hiL (by rw [hg]; unfold notColon; simp [h58])
        refine Ev.ite_pos ((byte58 _).2 h58) ?_
        rcases hc with h | h
        · rw [if_pos h] at hE
          refine Ev.ite_neg (by omega) (ih (i + 1) (by omega) (by omega) hok2 col ?_ (Or.inl h))
          rw [if_pos h]; exact hE
        · subst h
          rw [e1, if_neg (by omega), if_neg (by omega)] at hE
          refine Ev.ite_pos (by omega) (ih (i + 1) (by omega) (by omega) hok2 (i : Int) ?_ (Or.inl (by omega)))
          rw [if_pos (by omega)]; exact hE
      · have e1 := spanA_yes (p := notColon) (l := text.take e) hiL (by rw [hg]; unfold notColon; simpa using h58)
        rw [e1] at hE
        exact Ev.ite_neg (fun h => h58 ((byte58 _).1 h)) (ih (i + 1) (by omega) (by omega) hok2 col hE hc)
    refine Ev.next ?_
    simp only [bulletinref09_Parse.l2]
    rw [bt_mk text i hit, rVisF]
    simp only [Option.bind_some]
    refine Ev.ite_pos (by omega) (Ev.ite_pos (by omega) (Ev.ite_pos (by omega) ?_))
    by_cases hv : visU text[i] = true
    · exact Ev.ite_pos hv hj
    · refine Ev.ite_neg hv ?_
      have hbl : isBlank text[i] = true := by
        unfold okByte at hb; unfold visU at hv
        simp only [Bool.or_eq_true] at hb
        rcases hb with h | h
        · exact absurd h hv
        · exact h
      rw [rBlankF, hbl]
      simp only [Option.bind_some]
      exact hj
/-- .. one is not. -/
theorem bytes_bad (text : List UInt8) (hl : text.length ≤ 65536) (xs : List S25) (pos e : Nat) (he : e ≤ text.length) (q : Nat) (hq : q < e) :
    ∀ d i : Nat, q - i = d → i ≤ q → Hid (spanA okByte (text.take e) i = q) → ∀ col : Int, Ev (fun k => bulletinref09_Parse.l2 k (mkS text) xs (pos : Int) (e : Int) col (i : Int)) (([] : List S25), (q : Int), 6) := by
  have hs := mkS_size text
  have hLl : (text.take e).length = e := by rw [List.length_take]; omega
  intro d
  induction d with
  | zero =>
    intro i hd hi hok col
    obtain rfl : i = q := by omega
    have hit : i < text.length := by omega
    have hiL : i < (text.take e).length := by omega
    have hg := take_get text e i hq he
    have hb : okByte text[i] = false := by
      rcases Bool.eq_false_or_eq_true (okByte text[i]) with h | h
      · have e1 := spanA_yes (p := okByte) (l := text.take e) hiL (by rw [hg]; exact h)
        have e2 := (spanA_le (p := okByte) (l := text.take e) (i := i + 1) (by omega)).1
        have e3 := hok.out
        rw [e1] at e3
        omega
      · exact h
    unfold okByte at hb
    simp only [Bool.or_eq_false_iff] at hb
    have hv : visU text[i] = false := hb.1
    refine Ev.next ?_
    simp only [bulletinref09_Parse.l2]
    rw [bt_mk text i hit, rVisF, rBlankF, hv, hb.2]
    simp only [Option.bind_some]
    refine Ev.ite_pos (by omega) (Ev.ite_pos (by omega) (Ev.ite_pos (by omega) (Ev.ite_neg (by simp) ?_)))
    refine Ev.next ?_
    simp only [bulletinref09_Parse.j4]
    exact Ev.ite_pos (by simp) (Ev.const rfl)
  | succ d ih =>
    intro i hd hi hok col
    have hlt : i < e := by omega
    have hit : i < text.length := by omega
    have hiL : i < (text.take e).length := by omega
    have hg := take_get text e i hlt he
    have hb : okByte text[i] = true := by
      rcases Bool.eq_false_or_eq_true (okByte text[i]) with h | h
      · exact h
      · have e1 := spanA_no (p := okByte) (l := text.take e) hiL (by rw [hg]; exact h)
        have e2 := hok.out
        rw [e1] at e2
        omega
    have hok2 : Hid (spanA okByte (text.take e) (i + 1) = q) := Lib.hid ((spanA_yes (p := okByte) (l := text.take e) hiL (by rw [hg]; exact hb)).symm.trans hok.out)
    have hih := ih (i + 1) (by omega) (by omega) hok2
    have hj : Ev (fun k => bulletinref09_Parse.j4 k (mkS text) xs (pos : Int) (e : Int) col (i : Int) false) (([] : List S25), (q : Int), 6) := by
      refine Ev.next ?_
      simp only [bulletinref09_Parse.j4]
      rw [bt_mk text i hit, wrap_nat i (by omega)]
      refine Ev.ite_neg (by simp) (Ev.ite_pos (by omega) (Ev.ite_pos (by omega) ?_))
      by_cases h58 : text[i] = 58
      · refine Ev.ite_pos ((byte58 _).2 h58) ?_
        by_cases h : col < 0
        · exact Ev.ite_pos h (hih _)
        · exact Ev.ite_neg h (hih _)
      · exact Ev.ite_neg (fun h => h58 ((byte58 _).1 h)) (hih _)
    refine Ev.next ?_
    simp only [bulletinref09_Parse.l2]
    rw [bt_mk text i hit, rVisF]
    simp only [Option.bind_some]
    refine Ev.ite_pos (by omega) (Ev.ite_pos (by omega) (Ev.ite_pos (by omega) ?_))
    by_cases hv : visU text[i] = true
    · exact Ev.ite_pos hv hj
    · refine Ev.ite_neg hv ?_
      have hbl : isBlank text[i] = true := by
        unfold okByte at hb; unfold visU at hv
        simp only [Bool.or_eq_true] at hb
        rcases hb with h | h
        · exact absurd h hv
        · exact h
      rw [rBlankF, hbl]
      simp only [Option.bind_some]
      exact hj

theorem spanA_shift (p : UInt8 → Bool) (L : List UInt8) (pos i : Nat) : spanA p L (pos + i) = pos + spanA p (L.drop pos) i := by
  unfold spanA; rw [List.drop_drop]; omega
theorem longAt_shift (L : List UInt8) (pos : Nat) : ∀ (ws : List (List UInt8)) (i : Nat), longAt L (pos + i) ws = (longAt (L.drop pos) i ws).map (pos + ·)
  | [], _ => rfl
  | x :: xs, i => by
    unfold longAt
    rw [spanA_shift]
    split
    · rfl
    · rw [Nat.add_assoc]; exact longAt_shift L pos xs _
/-- What one step of the reference's parser does. -/
def RefDoes (text : List UInt8) (fs : List Fld) (pos : Nat) (f : Nat → Option PR) : (Int × Int) ⊕ (List Fld × Nat) → Prop
  | .inl (pl, e) => Ev f (([] : List S25), pl, e)
  | .inr (fs', pos') => ∀ R, Ev (fun k => bulletinref09_Parse.l0 k (mkS text) (fs'.map toR) (pos' : Int)) R → Ev f R

theorem body_does (text : List UInt8) (hl : text.length ≤ 65536) (fs : List Fld) (h0 : fs ≠ []) (hfl : fs.length ≤ 64) (hc : joinW (wordsL (lastBody fs)) = lastBody fs) (hb : (lastBody fs).length ≤ 8192) (pos e i : Nat) (he : e < text.length) (hi : pos + i ≤ e) :
    RefDoes text fs pos (fun k => bulletinref09_Parse.j7 k (mkS text) (fs.map toR) (pos : Int) (e : Int) ((pos + i : Nat) : Int)) (bodyE pos fs ((text.take e).drop pos) i) := by
  have hLl : (text.take e).length = e := by rw [List.length_take]; omega
  have hpos := List.length_pos_iff.2 h0
  have hml : (fs.map toR).length = fs.length := List.length_map _
  have hw1 : wrap64 (((fs.map toR).length : Int) - 1) = ((fs.length - 1 : Nat) : Int) := by rw [hml]; unfold wrap64; omega
  have hlast : rd_T25 (fs.map toR) ((fs.length - 1 : Nat) : Int) = toR (fs.getLast h0) := by
    rw [rd25 _ _ (by rw [hml]; omega), List.getElem_map]
    congr 1
    rw [List.getLast_eq_getElem]
  have hlb := lastBody_eq fs h0
  have hbody : (toR (fs.getLast h0)).f1 = mkS (lastBody fs) := by rw [hlb]; rfl
  have hdd : (text.take e).drop (pos + i) = ((text.take e).drop pos).drop i := by rw [List.drop_drop]
  have hadd := addLoop text (by omega) e (by omega) (e - (pos + i)) (pos + i) (by omega) hi (lastBody fs) (by omega)
  rw [hdd, longAt_shift] at hadd
  have hjoin : addB (lastBody fs) (wordsL (((text.take e).drop pos).drop i)) = joinW (wordsL (lastBody fs) ++ wordsL (((text.take e).drop pos).drop i)) := by
    rw [← addB_join _ _ (fun x hx => (wordsL_ok _ x hx).1) (fun x hx => (wordsL_ok _ x hx).1), hc]
  have hlen : ((text.take e).drop pos).length = e - pos := by rw [List.length_drop]; omega
  have hw2 : wrap64 ((e : Int) + 1) = ((pos + ((e - pos) + 1) : Nat) : Int) := by rw [wrap_nat e (by omega)]; congr 1; omega
  have Hw1 := Lib.hid hw1
  have Hw2 := Lib.hid hw2
  have Hlast := Lib.hid hlast
  clear hw1 hw2 hlast hdd
  obtain ⟨ha, hbad⟩ := hadd
  have hstep : ∀ (t : ByteArray × Int) (R : PR), Ev (fun k => bulletinref09_add.f k (mkS (lastBody fs)) (mkS text) ((pos + i : Nat) : Int) (e : Int)) t →
      Ev (fun k => if t.2 ≥ 0 then (some (([] : List S25), t.2, 5)) else (if (t.1.size : Int) > 8192 then (some (([] : List S25), (pos : Int), 5)) else (bulletinref09_Parse.l0 k (mkS text) ((fs.map toR).set (((fs.length - 1 : Nat) : Int)).toNat (⟨(toR (fs.getLast h0)).f0, t.1⟩ : S25)) (((pos + ((e - pos) + 1) : Nat)) : Int)))) R →
      Ev (fun k => bulletinref09_Parse.j7 k (mkS text) (fs.map toR) (pos : Int) (e : Int) ((pos + i : Nat) : Int)) R := by
    intro t R ht hR
    refine Ev.next ?_
    simp only [bulletinref09_Parse.j7]
    rw [Hw1.out, Hlast.out, hbody, Hw2.out, hml]
    refine Ev.ite_pos (by omega) (Ev.ite_pos (by omega) (Ev.bind ht hR))
  unfold bodyE
  cases hla : longAt ((text.take e).drop pos) i (wordsL (((text.take e).drop pos).drop i)) with
  | some p =>
    rw [hla] at hbad
    obtain ⟨bb, hbb⟩ := hbad (pos + p) rfl
    exact hstep _ _ hbb (Ev.ite_pos (by show ((pos + p : Nat) : Int) ≥ 0; omega) (Ev.const rfl))
  | none =>
    rw [hla] at ha
    have ha2 := ha rfl
    rw [hjoin] at ha2
    dsimp only
    split
    · rename_i h8
      refine hstep _ _ ha2 (Ev.ite_neg (by show ¬ ((-1 : Int) ≥ 0); decide) (Ev.ite_pos ?_ (Ev.const rfl)))
      show ((mkS _).size : Int) > 8192
      rw [mkS_size]; omega
    · rename_i h8
      intro R hR
      refine hstep _ R ha2 (Ev.ite_neg (by show ¬ ((-1 : Int) ≥ 0); decide) (Ev.ite_neg ?_ ?_))
      · show ¬ ((mkS _).size : Int) > 8192
        rw [mkS_size]; omega
      · rw [setBody_map toR fs _ h0, hlen] at hR
        rw [Int.toNat_natCast]
        exact hR
end Go.Proofs.Ytfeciafdioepiaa
