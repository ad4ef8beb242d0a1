/- Plain: the two parsers agree; the law of the parsing. -/
import Derived.Test.YtfeciafdioepiaaP6
set_option linter.unusedVariables false
set_option linter.unusedSimpArgs false
namespace Go.Proofs.Ytfeciafdioepiaa
open Go.RowKit Go.Proofs Go.Proofs.YtfeciafdioepiaaW.PrintWords Go.Proofs.Ytfeciafdioepiaa.PA

structure CanP (fs : List Fld) : Prop where
  len : fs.length ≤ 64
  can : joinW (wordsL (lastBody fs)) = lastBody fs
  body : (lastBody fs).length ≤ 8192
theorem lastBody_snoc (fs : List Fld) (f : Fld) : lastBody (fs ++ [f]) = f.body := by unfold lastBody; simp
theorem lastBody_set (fs : List Fld) (h : fs ≠ []) (b : List UInt8) : lastBody (setBody fs b) = b := by
  unfold setBody
  rw [List.getLast?_eq_some_getLast h]
  exact lastBody_snoc _ _
theorem setBody_len (fs : List Fld) (b : List UInt8) : (setBody fs b).length = fs.length := by
  by_cases h : fs = []
  · subst h; rfl
  · have := congrArg List.length (setBody_map id fs b h); simpa using this
theorem bodyE_can {pos : Nat} {fs : List Fld} {line : List UInt8} {i : Nat} {fs' : List Fld} {pos' : Nat} (h0 : fs ≠ []) (hc : CanP fs) (h : bodyE pos fs line i = .inr (fs', pos')) : CanP fs' ∧ pos' = pos + (line.length + 1) := by
  unfold bodyE at h
  split at h
  · cases h
  · split at h
    · cases h
    · rename_i h8
      injection h with h
      injection h with h1 h2
      subst h1 h2
      refine ⟨⟨by rw [setBody_len]; exact hc.len, ?_, ?_⟩, rfl⟩
      · rw [lastBody_set fs h0, words_join _ (fun x hx => by rcases List.mem_append.1 hx with h | h <;> exact wordsL_ok _ x h)]
      · rw [lastBody_set fs h0]; omega
theorem lineE_can {text : List UInt8} {pos : Nat} {fs : List Fld} {line : List UInt8} {fs' : List Fld} {pos' : Nat} (hc : CanP fs) (h : lineE text pos fs line = .inr (fs', pos')) : CanP fs' ∧ pos' = pos + (line.length + 1) := by
  unfold lineE at h
  split at h
  · split at h
    · cases h
    · exact bodyE_can (by assumption) hc h
  · split at h
    · cases h
    · split at h
      · cases h
      · split at h
        · cases h
        · have := hc.len
          exact bodyE_can (by simp) ⟨by simp; omega, by rw [lastBody_snoc]; rfl, by rw [lastBody_snoc]; simp⟩ h
theorem stepP_can {text : List UInt8} {pos : Nat} {fs : List Fld} {fs' : List Fld} {pos' : Nat} (hc : CanP fs) (h : stepP text pos fs = .inr (fs', pos')) : CanP fs' ∧ pos < pos' ∧ pos' ≤ text.length := by
  unfold stepP at h
  have hle := spanL_le notNl (text.drop pos)
  split at h
  · cases h
  · split at h
    · cases h
    · split at h
      · cases h
      · rename_i h1 _ _
        obtain ⟨h2, h3⟩ := lineE_can hc h
        refine ⟨h2, ?_⟩
        rw [List.length_take] at h3
        rw [List.length_drop] at h1 hle h3
        omega

theorem name_take (text : List UInt8) (pos n c : Nat) (hc : c ≤ n) : (text.drop pos).take c = ((text.drop pos).take n).take c := by
  rw [List.take_take]; congr 1; omega
theorem ref_step (text : List UInt8) (hl : text.length ≤ 65536) (fs : List Fld) (hc : CanP fs) (pos : Nat) (hp : pos < text.length) :
    RefDoes text fs pos (fun k => bulletinref09_Parse.l0 k (mkS text) (fs.map toR) (pos : Int)) (stepP text pos fs) := by
  have hs := mkS_size text
  have hml : (fs.map toR).length = fs.length := List.length_map _
  have hfl := hc.len
  have hle := spanL_le notNl (text.drop pos)
  have hsp : spanA notNl text pos = pos + spanL notNl (text.drop pos) := rfl
  unfold stepP
  generalize spanL notNl (text.drop pos) = n at *
  rw [List.length_drop] at *
  have Hsp := Lib.hid hsp
  clear hsp
  have hstart : ∀ R, Ev (fun k => bulletinref09_Parse.j2 k (mkS text) (fs.map toR) (pos : Int) ((pos + n : Nat) : Int)) R → Ev (fun k => bulletinref09_Parse.l0 k (mkS text) (fs.map toR) (pos : Int)) R := by
    intro R hR
    refine Ev.next ?_
    simp only [bulletinref09_Parse.l0]
    exact Ev.ite_pos (by omega) (scan_nl text hl _ pos R (pos + n) hR _ pos rfl (by omega) Hsp)
  have Hw1 := Lib.hid (show wrap64 (((pos + n : Nat) : Int) - (pos : Int)) = (n : Int) by unfold wrap64; omega)
  have Hw2 := Lib.hid (show wrap64 ((pos : Int) + 998) = ((pos + 998 : Nat) : Int) by unfold wrap64; omega)
  by_cases h1 : n = text.length - pos
  · rw [if_pos h1]
    refine hstart _ (Ev.next ?_)
    simp only [bulletinref09_Parse.j2]
    rw [hs]
    exact Ev.ite_pos (by omega) (Ev.const rfl)
  · rw [if_neg h1]
    have hq : pos + n < text.length := by omega
    by_cases h2 : 998 < n
    · rw [if_pos h2]
      refine hstart _ (Ev.next ?_)
      simp only [bulletinref09_Parse.j2]
      rw [Hw1.out, Hw2.out]
      exact Ev.ite_neg (by omega) (Ev.ite_pos (by omega) (Ev.const rfl))
    · rw [if_neg h2]
      have hj2 : ∀ R, Ev (fun k => bulletinref09_Parse.l2 k (mkS text) (fs.map toR) (pos : Int) ((pos + n : Nat) : Int) (-1) (pos : Int)) R → Ev (fun k => bulletinref09_Parse.l0 k (mkS text) (fs.map toR) (pos : Int)) R := by
        intro R hR
        refine hstart _ (Ev.next ?_)
        simp only [bulletinref09_Parse.j2]
        rw [Hw1.out, Hw2.out]
        exact Ev.ite_neg (by omega) (Ev.ite_neg (by omega) hR)
      have hL : (text.drop pos).take n = (text.take (pos + n)).drop pos := by rw [List.drop_take]; congr 1; omega
      have hLl : ((text.drop pos).take n).length = n := by rw [List.length_take, List.length_drop]; omega
      have hob : spanA okByte (text.take (pos + n)) pos = pos + spanL okByte ((text.drop pos).take n) := by rw [hL]; rfl
      have hob2 := spanL_le okByte ((text.drop pos).take n)
      have hcb : spanA notColon (text.take (pos + n)) pos = pos + colonP ((text.drop pos).take n) := by rw [hL]; rfl
      have hcb2 := spanL_le notColon ((text.drop pos).take n)
      have hcb3 : colonP ((text.drop pos).take n) ≤ n := by rw [hLl] at hcb2; exact hcb2
      rw [hLl] at hob2
      have Hob := Lib.hid hob
      have Hcb := Lib.hid hcb
      clear hob hcb hcb2
      by_cases h3 : spanL okByte ((text.drop pos).take n) < n
      · rw [if_pos h3]
        exact hj2 _ (bytes_bad text hl _ pos (pos + n) (by omega) _ (by omega) _ pos rfl (by omega) Hob (-1))
      · rw [if_neg h3]
        have h4 : spanL okByte ((text.drop pos).take n) = n := by omega
        rw [h4] at Hob
        clear h3 hob2 h4
        -- behind the bytes
        have hend : ∀ R, Ev (fun k => bulletinref09_Parse.j5 k (mkS text) (fs.map toR) (pos : Int) ((pos + n : Nat) : Int) (if colonP ((text.drop pos).take n) = n then -1 else ((pos + colonP ((text.drop pos).take n) : Nat) : Int)) (contP ((text.drop pos).take n))) R → Ev (fun k => bulletinref09_Parse.l0 k (mkS text) (fs.map toR) (pos : Int)) R := by
          intro R hR
          refine hj2 R (bytes_ok text hl _ pos (pos + n) (by omega) R _ pos rfl (by omega) Hob (-1) ?_ (Or.inr rfl))
          rw [if_neg (by omega), Hcb.out]
          have hif : (if pos + colonP ((text.drop pos).take n) = pos + n then (-1 : Int) else ((pos + colonP ((text.drop pos).take n) : Nat) : Int)) = if colonP ((text.drop pos).take n) = n then -1 else ((pos + colonP ((text.drop pos).take n) : Nat) : Int) := by
            by_cases h : colonP ((text.drop pos).take n) = n
            · rw [if_pos h, if_pos (by omega)]
            · rw [if_neg h, if_neg (by omega)]
          rw [hif]
          refine Ev.next ?_
          simp only [bulletinref09_Parse.l2]
          refine Ev.ite_neg (by omega) ?_
          by_cases h0 : n = 0
          · have : contP ((text.drop pos).take n) = false := by rw [h0]; rfl
            rw [this] at hR
            exact Ev.ite_neg (by omega) hR
          · have : contP ((text.drop pos).take n) = isBlank text[pos] := by
              obtain ⟨m, rfl⟩ : ∃ m, n = m + 1 := ⟨n - 1, by omega⟩
              rw [List.drop_eq_getElem_cons hp]; rfl
            rw [this] at hR
            refine Ev.ite_pos (by omega) (Ev.ite_pos (by omega) (Ev.ite_pos (by omega) ?_))
            rw [bt_mk text pos hp, rBlankF]
            simp only [Option.bind_some]
            exact hR
        have hname : ∀ c : Nat, c ≤ n → (mkS text).extract ((pos : Int)).toNat (((pos + c : Nat) : Int)).toNat = mkS (((text.drop pos).take n).take c) := by
          intro c hcn
          rw [Int.toNat_natCast, Int.toNat_natCast, extract_mk, mkS_toList, show pos + c - pos = c by omega, name_take text pos n c hcn]
        have hbod := fun (gs : List Fld) (g0 : gs ≠ []) (hg : CanP gs) (i : Nat) (hi : pos + i ≤ pos + n) => body_does text hl gs g0 hg.len hg.can hg.body pos (pos + n) i hq hi
        rw [← hL] at hbod
        generalize (text.drop pos).take n = line at *
        have hvn : (mkS text).size ≤ 65536 := by omega
        unfold lineE
        rw [hLl]
        by_cases h5 : contP line = true
        · rw [if_pos h5]
          rw [h5] at hend
          by_cases h6 : fs = []
          · rw [if_pos h6]
            refine hend _ (Ev.next ?_)
            simp only [bulletinref09_Parse.j5]
            refine Ev.ite_pos (by first | trivial | rfl) (Ev.ite_pos (by rw [hml, h6]; rfl) (Ev.next ?_))
            simp only [bulletinref09_Parse.j6]
            exact Ev.ite_pos (by first | trivial | rfl) (Ev.const rfl)
          · rw [if_neg h6]
            have hpl := List.length_pos_iff.2 h6
            have hgo : ∀ R, Ev (fun k => bulletinref09_Parse.j7 k (mkS text) (fs.map toR) (pos : Int) ((pos + n : Nat) : Int) ((pos + 0 : Nat) : Int)) R → Ev (fun k => bulletinref09_Parse.l0 k (mkS text) (fs.map toR) (pos : Int)) R := by
              intro R hR
              refine hend _ (Ev.next ?_)
              simp only [bulletinref09_Parse.j5]
              refine Ev.ite_pos (by first | trivial | rfl) (Ev.ite_neg (by rw [hml]; omega) (Ev.next ?_))
              simp only [bulletinref09_Parse.j6]
              exact Ev.ite_neg (by simp) (Ev.ite_pos (by first | trivial | rfl) hR)
            have hb := hbod fs h6 hc 0 (by omega)
            cases ho : bodyE pos fs line 0 with
            | inl x => rw [ho] at hb; exact hgo _ hb
            | inr x => rw [ho] at hb; exact fun R hR => hgo _ (hb R hR)
        · rw [if_neg h5]
          have h5' : contP line = false := by simpa using h5
          rw [h5'] at hend
          by_cases h6 : colonP line = n
          · rw [if_pos h6]
            rw [if_pos h6] at hend
            refine hend _ (Ev.next ?_)
            simp only [bulletinref09_Parse.j5]
            refine Ev.ite_neg (by simp) (Ev.next ?_)
            simp only [bulletinref09_Parse.j6]
            exact Ev.ite_pos (by simp) (Ev.const rfl)
          · rw [if_neg h6]
            rw [if_neg h6] at hend
            have hcn : colonP line < n := by omega
            have hvl : (line.take (colonP line)).length ≤ 1000000 := by rw [List.length_take]; omega
            have hcheck : ∀ R, Ev (fun k => (bulletinref09_ValidName.f k (mkS (line.take (colonP line)))).bind fun t191 => (if t191 = true then (if ((fs.map toR).length : Int) = 64 then (some (([] : List S25), (pos : Int), 9)) else (if (fs.map toR).length < 4398046511104 then (bulletinref09_Parse.j7 k (mkS text) (fs.map toR ++ [(⟨mkS (line.take (colonP line)), (⟨#[]⟩ : ByteArray)⟩ : S25)]) (pos : Int) ((pos + n : Nat) : Int) ((pos + (colonP line + 1) : Nat) : Int)) else (none))) else (some (([] : List S25), (pos : Int), 12)))) R → Ev (fun k => bulletinref09_Parse.l0 k (mkS text) (fs.map toR) (pos : Int)) R := by
              intro R hR
              refine hend _ (Ev.next ?_)
              simp only [bulletinref09_Parse.j5]
              refine Ev.ite_neg (by simp) (Ev.next ?_)
              simp only [bulletinref09_Parse.j6]
              rw [hname _ hcb3]
              have hww : wrap64 (((pos + colonP line : Nat) : Int) + 1) = ((pos + (colonP line + 1) : Nat) : Int) := by rw [wrap_nat _ (by omega)]; rfl
              rw [hww]
              clear hww
              exact Ev.ite_neg (by simp; omega) (Ev.ite_neg (by simp) (Ev.ite_pos (by omega) (Ev.ite_pos (by omega) (Ev.ite_pos (by omega) hR))))
            have hV : Ev (fun k => bulletinref09_ValidName.f k (mkS (line.take (colonP line)))) (validNameL (line.take (colonP line))) := ⟨_, fun k hk => refValidF _ hvl k hk⟩
            by_cases h7 : validNameL (line.take (colonP line)) = false
            · rw [if_pos h7]
              exact hcheck _ (Ev.bind hV (Ev.ite_neg (by rw [h7]; simp) (Ev.const rfl)))
            · rw [if_neg h7]
              have h7' : validNameL (line.take (colonP line)) = true := by simpa using h7
              by_cases h8 : fs.length = 64
              · rw [if_pos h8]
                exact hcheck _ (Ev.bind hV (Ev.ite_pos h7' (Ev.ite_pos (by rw [hml]; omega) (Ev.const rfl))))
              · rw [if_neg h8]
                have hg : CanP (fs ++ [⟨line.take (colonP line), []⟩]) := ⟨by simp; omega, by rw [lastBody_snoc]; rfl, by rw [lastBody_snoc]; simp⟩
                have hb := hbod (fs ++ [⟨line.take (colonP line), []⟩]) (by simp) hg (colonP line + 1) (by omega)
                have hgo : ∀ R, Ev (fun k => bulletinref09_Parse.j7 k (mkS text) ((fs ++ [(⟨line.take (colonP line), []⟩ : Fld)]).map toR) (pos : Int) ((pos + n : Nat) : Int) ((pos + (colonP line + 1) : Nat) : Int)) R → Ev (fun k => bulletinref09_Parse.l0 k (mkS text) (fs.map toR) (pos : Int)) R := by
                  intro R hR
                  rw [List.map_append] at hR
                  exact hcheck _ (Ev.bind hV (Ev.ite_pos h7' (Ev.ite_neg (by rw [hml]; omega) (Ev.ite_pos (by rw [hml]; omega) hR))))
                cases ho : bodyE pos (fs ++ [⟨line.take (colonP line), []⟩]) line (colonP line + 1) with
                | inl x => rw [ho] at hb; exact hgo _ hb
                | inr x => rw [ho] at hb; exact fun R hR => hgo _ (hb R hR)
/-- What the whole loop gives. -/
def outP (s : PSt) : PR := if s.failed ≠ 0 then ([], s.place, s.failed) else (s.fs.map toR, 0, 0)
theorem loopP_stop (text : List UInt8) (m : Nat) (s : PSt) (h : ¬ (s.failed = 0 ∧ s.pos < text.length)) : loopP text m s = s := by
  cases m with
  | zero => rfl
  | succ m => unfold loopP; rw [if_neg h]
theorem ref_loop (text : List UInt8) (hl : text.length ≤ 65536) (p0 : Int) : ∀ m pos : Nat, text.length - pos < m → pos ≤ text.length → ∀ fs : List Fld, CanP fs →
    Ev (fun k => bulletinref09_Parse.l0 k (mkS text) (fs.map toR) (pos : Int)) (outP (loopP text m ⟨pos, fs, p0, 0⟩)) := by
  have hs := mkS_size text
  intro m
  induction m with
  | zero => intro pos h; omega
  | succ m ih =>
    intro pos hm hp fs hc
    by_cases hlt : pos < text.length
    · have hd := oneP_does text pos fs p0
      have hr := ref_step text hl fs hc pos hlt
      have hun : loopP text (m + 1) ⟨pos, fs, p0, 0⟩ = loopP text m (oneP text ⟨pos, fs, p0, 0⟩) := by
        conv => lhs; unfold loopP
        rw [if_pos ⟨rfl, hlt⟩]
      rw [hun]
      cases ho : stepP text pos fs with
      | inl x =>
        obtain ⟨pl, e⟩ := x
        rw [ho] at hd hr
        obtain ⟨h1, h2, h3⟩ := hd
        rw [loopP_stop text m _ (fun h => h3 (h1.symm.trans h.1))]
        unfold outP
        rw [if_pos (by rw [h1]; exact h3), h1, h2]
        exact hr
      | inr x =>
        obtain ⟨fs', pos'⟩ := x
        obtain ⟨hc', hp1, hp2⟩ := stepP_can hc ho
        rw [ho] at hd hr
        have hd' : oneP text ⟨pos, fs, p0, 0⟩ = ⟨pos', fs', p0, 0⟩ := hd
        rw [hd']
        exact hr _ (ih pos' (by omega) hp2 fs' hc')
    · rw [loopP_stop text (m + 1) _ (fun h => hlt h.2)]
      refine Ev.next ?_
      simp only [bulletinref09_Parse.l0]
      exact Ev.ite_neg (by omega) (Ev.const rfl)
theorem refParseF (text : List UInt8) : Ev (fun k => bulletinref09_Parse.f k (mkS text)) ((parseP text).1.map toR, (parseP text).2.1, (parseP text).2.2) := by
  have hs := mkS_size text
  unfold bulletinref09_Parse.f
  by_cases h : 65536 < text.length
  · have : parseP text = ([], 65536, 5) := by unfold parseP; rw [if_pos h]
    rw [this]
    exact Ev.ite_pos (by omega) (Ev.const rfl)
  · refine Ev.ite_neg (by omega) ?_
    have hp : parseP text = if (loopP text (text.length + 1) ⟨0, [], 0, 0⟩).failed ≠ 0 then ([], (loopP text (text.length + 1) ⟨0, [], 0, 0⟩).place, (loopP text (text.length + 1) ⟨0, [], 0, 0⟩).failed) else ((loopP text (text.length + 1) ⟨0, [], 0, 0⟩).fs, 0, 0) := by
      unfold parseP; rw [if_neg h]
    refine (ref_loop text (by omega) 0 (text.length + 1) 0 (by omega) (by omega) [] ⟨by simp, rfl, by simp [lastBody]⟩).is ?_
    rw [hp]
    unfold outP
    split <;> rfl
/-- What every step keeps, the result has. -/
theorem loop_ind (text : List UInt8) (P : Nat → List Fld → Prop) (hstep : ∀ pos fs fs' pos', pos < text.length → CanP fs → P pos fs → stepP text pos fs = .inr (fs', pos') → P pos' fs') (p0 : Int) :
    ∀ m pos : Nat, text.length - pos < m → pos ≤ text.length → ∀ fs : List Fld, CanP fs → P pos fs → (loopP text m ⟨pos, fs, p0, 0⟩).failed = 0 → CanP (loopP text m ⟨pos, fs, p0, 0⟩).fs ∧ P text.length (loopP text m ⟨pos, fs, p0, 0⟩).fs := by
  intro m
  induction m with
  | zero => intro pos h; omega
  | succ m ih =>
    intro pos hm hp fs hc hP hf
    by_cases hlt : pos < text.length
    · have hd := oneP_does text pos fs p0
      have hun : loopP text (m + 1) ⟨pos, fs, p0, 0⟩ = loopP text m (oneP text ⟨pos, fs, p0, 0⟩) := by
        conv => lhs; unfold loopP
        rw [if_pos ⟨rfl, hlt⟩]
      rw [hun] at hf ⊢
      cases ho : stepP text pos fs with
      | inl x =>
        obtain ⟨pl, e⟩ := x
        rw [ho] at hd
        obtain ⟨h1, h2, h3⟩ := hd
        rw [loopP_stop text m _ (fun h => h3 (h1.symm.trans h.1)), h1] at hf
        exact absurd hf h3
      | inr x =>
        obtain ⟨fs', pos'⟩ := x
        obtain ⟨hc', hp1, hp2⟩ := stepP_can hc ho
        rw [ho] at hd
        have hd' : oneP text ⟨pos, fs, p0, 0⟩ = ⟨pos', fs', p0, 0⟩ := hd
        rw [hd'] at hf ⊢
        exact ih pos' (by omega) hp2 fs' hc' (hstep pos fs fs' pos' hlt hc hP ho) hf
    · rw [loopP_stop text (m + 1) _ (fun h => hlt h.2)]
      obtain rfl : pos = text.length := by omega
      exact ⟨hc, hP⟩
theorem parse_ind (text : List UInt8) (P : Nat → List Fld → Prop) (h0 : P 0 []) (hstep : ∀ pos fs fs' pos', pos < text.length → CanP fs → P pos fs → stepP text pos fs = .inr (fs', pos') → P pos' fs')
    (hz : (parseP text).2.2 = 0) : CanP (parseP text).1 ∧ P text.length (parseP text).1 := by
  unfold parseP at hz ⊢
  by_cases h : 65536 < text.length
  · rw [if_pos h] at hz; exact absurd hz (by decide)
  · rw [if_neg h] at hz ⊢
    dsimp only at hz ⊢
    by_cases hf : (loopP text (text.length + 1) ⟨0, [], 0, 0⟩).failed ≠ 0
    · rw [if_pos hf] at hz; exact absurd hz hf
    · rw [if_neg hf]
      exact loop_ind text P hstep 0 (text.length + 1) 0 (by omega) (by omega) [] ⟨by simp, rfl, by simp [lastBody]⟩ h0 (by simpa using hf)
theorem parse_fail (text : List UInt8) (hz : (parseP text).2.2 ≠ 0) : (parseP text).1 = [] := by
  unfold parseP at hz ⊢
  by_cases h : 65536 < text.length
  · rw [if_pos h]
  · rw [if_neg h] at hz ⊢
    dsimp only at hz ⊢
    by_cases hf : (loopP text (text.length + 1) ⟨0, [], 0, 0⟩).failed ≠ 0
    · rw [if_pos hf]
    · rw [if_neg hf] at hz; exact absurd rfl hz
theorem parse_len (text : List UInt8) : (parseP text).1.length ≤ 64 := by
  by_cases hz : (parseP text).2.2 = 0
  · exact (parse_ind text (fun _ _ => True) trivial (fun _ _ _ _ _ _ _ _ => trivial) hz).1.len
  · rw [parse_fail text hz]; simp
theorem GParse (l : List UInt8) (h : l.length ≤ 1000000) : GV.Parse.f (mkS l) = some ((parseP l).1.map toS, (parseP l).2.1, (parseP l).2.2) := by
  unfold GV.Parse.f
  rw [if_pos (by rw [mkS_size]; omega), mkS_toList]

end Go.Proofs.Ytfeciafdioepiaa
