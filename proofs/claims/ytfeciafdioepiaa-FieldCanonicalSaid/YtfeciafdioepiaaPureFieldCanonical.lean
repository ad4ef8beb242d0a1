/- Plain: the law of the canonical texts. -/
import Derived.Test.YtfeciafdioepiaaQ3
import Derived.Test.YtfeciafdioepiaaQ4
import Derived.Test.YtfeciafdioepiaaPC4
set_option linter.unusedVariables false
set_option linter.unusedSimpArgs false
namespace Go.Proofs.Ytfeciafdioepiaa
open Go.RowKit Go.Proofs Go.Proofs.YtfeciafdioepiaaW.PrintWords Go.Proofs.Ytfeciafdioepiaa.PA

/-! ### what was parsed is valid -/
theorem check_of {f : Fld} (h1 : validNameL f.name = true) (h2 : ∀ c ∈ f.body, okPrint c = true) (h3 : joinW (wordsL f.body) = f.body) (h4 : f.body.length ≤ 8192) (h5 : ∀ x ∈ wordsL f.body, x.length ≤ 900) : checkL f.name f.body = 0 := by
  unfold checkL
  have hp : ¬ printableZ f.body ≥ 0 := by
    unfold printableZ
    rw [if_pos (spanL_all okPrint f.body h2)]; decide
  have hl : ¬ longAny f.body = true := by
    unfold longAny
    rw [List.any_eq_true]
    rintro ⟨x, hx, h⟩
    have := h5 x hx
    simp at h; omega
  rw [if_pos h1, if_neg hp, if_pos h3, if_neg (by omega), if_neg hl]
theorem joinW_mem : ∀ (ws : List (List UInt8)) (c : UInt8), c ∈ joinW ws → c = 32 ∨ ∃ x ∈ ws, c ∈ x
  | [], c, h => by simp [joinW, List.intercalate] at h
  | [x], c, h => by
    have : joinW [x] = x := by simp [joinW, List.intercalate]
    rw [this] at h
    exact Or.inr ⟨x, by simp, h⟩
  | x :: y :: t, c, h => by
    have e : joinW (x :: y :: t) = x ++ (32 :: joinW (y :: t)) := by simp [joinW, List.intercalate_cons_cons]
    rw [e] at h
    rcases List.mem_append.1 h with h | h
    · exact Or.inr ⟨x, by simp, h⟩
    · rcases List.mem_cons.1 h with rfl | h
      · exact Or.inl rfl
      · rcases joinW_mem (y :: t) c h with h | ⟨z, hz, hc⟩
        · exact Or.inl h
        · exact Or.inr ⟨z, by simp at hz ⊢; exact Or.inr hz, hc⟩
theorem longAt_all : ∀ (ws : List (List UInt8)) (line : List UInt8) (i : Nat), longAt line i ws = none → ∀ x ∈ ws, x.length ≤ 900
  | [], _, _, _, x, h => by simp at h
  | y :: ys, line, i, h, x, hx => by
    unfold longAt at h
    split at h
    · cases h
    · rcases List.mem_cons.1 hx with rfl | hx
      · omega
      · exact longAt_all ys line _ h x hx
theorem okp_of (c : UInt8) (h1 : okByte c = true) (h2 : isBlank c = false) : okPrint c = true := by
  have key : ∀ c : UInt8, okByte c = true → isBlank c = false → okPrint c = true := by
    apply all_u8
    decide +kernel
  exact key c h1 h2
theorem setBody_mem (fs : List Fld) (h : fs ≠ []) (b : List UInt8) : ∀ f ∈ setBody fs b, f ∈ fs.dropLast ∨ f = ⟨(fs.getLast h).name, b⟩ := by
  intro f hf
  unfold setBody at hf
  rw [List.getLast?_eq_some_getLast h] at hf
  rcases List.mem_append.1 hf with hf | hf
  · exact Or.inl hf
  · simp at hf; exact Or.inr hf
theorem mem_dropLast {fs : List Fld} {f : Fld} (h : f ∈ fs.dropLast) : f ∈ fs := List.dropLast_subset fs h
/-- The printed length of fields. -/
def costF (fs : List Fld) : Nat := (fs.map fun f => f.name.length + 2 + costW (wordsL f.body)).sum
theorem costF_snoc (fs : List Fld) (f : Fld) : costF (fs ++ [f]) = costF fs + (f.name.length + 2 + costW (wordsL f.body)) := by simp [costF]
theorem costW_app (a b : List (List UInt8)) : costW (a ++ b) = costW a + costW b := by
  unfold costW; rw [sumL_append, List.length_append]; omega
theorem print_len (fs : List Fld) : (printL fs).length ≤ costF fs := by
  induction fs with
  | nil => simp [printL]
  | cons f fs ih =>
    have e : printL (f :: fs) = foldL f.name f.body ++ printL fs := by simp [printL]
    have e2 : costF (f :: fs) = (f.name.length + 2 + costW (wordsL f.body)) + costF fs := by simp [costF]
    have := foldL_len f.name f.body
    rw [e, e2, List.length_append]; omega
/-- The words of a text, and what parts them. -/
theorem wordsGo_room (l : List UInt8) : ∀ cur, sumL (wordsGo l cur) + (wordsGo l cur).length ≤ l.length + cur.length + 1 := by
  induction l with
  | nil => intro cur; unfold wordsGo; split <;> simp [sumL]
  | cons c l ih =>
    intro cur
    unfold wordsGo
    by_cases hb : isBlank c = true
    · rw [if_pos hb]
      have := ih []
      by_cases h0 : cur = []
      · rw [if_pos h0]; simp at this ⊢; omega
      · rw [if_neg h0]
        have e : sumL (cur :: wordsGo l []) = cur.length + sumL (wordsGo l []) := by unfold sumL; rw [List.map_cons, List.sum_cons]
        rw [e]; simp at this ⊢; omega
    · rw [if_neg hb]
      have := ih (cur ++ [c])
      simp at this ⊢; omega
/-- All that is kept: every field is valid, but for what its last line may have left over; and the printed length. -/
structure Kept2 (pos : Nat) (fs : List Fld) : Prop where
  good : ∀ f ∈ fs, checkL f.name f.body = 0
  cost : costF fs ≤ 2 * pos
theorem body_kept {pos : Nat} {fs : List Fld} {line : List UInt8} {i : Nat} {fs' : List Fld} {pos' : Nat} (h0 : fs ≠ []) (hg : ∀ f ∈ fs.dropLast, checkL f.name f.body = 0) (hname : validNameL (fs.getLast h0).name = true) (hcan : joinW (wordsL (lastBody fs)) = lastBody fs)
    (hold : ∀ c ∈ lastBody fs, okPrint c = true) (hold2 : ∀ x ∈ wordsL (lastBody fs), x.length ≤ 900) (hline : ∀ c ∈ line, okByte c = true) (C : Nat) (hcost : costF fs + costW (wordsL (line.drop i)) ≤ C) (h : bodyE pos fs line i = .inr (fs', pos')) :
    (∀ f ∈ fs', checkL f.name f.body = 0) ∧ costF fs' ≤ C := by
  unfold bodyE at h
  split at h
  · cases h
  · rename_i hla
    split at h
    · cases h
    · rename_i h8
      injection h with h
      injection h with h1 h2
      subst h1
      have hok : ∀ x ∈ wordsL (lastBody fs) ++ wordsL (line.drop i), wordOk x := fun x hx => by rcases List.mem_append.1 hx with h | h <;> exact wordsL_ok _ x h
      have hwj := words_join _ hok
      have hlong := longAt_all _ _ _ hla
      refine ⟨fun f hf => ?_, ?_⟩
      · rcases setBody_mem fs h0 _ f hf with hf | rfl
        · exact hg f hf
        · refine check_of hname (fun c hc => ?_) (by rw [hwj]) (Nat.le_of_not_lt h8) (fun x hx => ?_)
          · rcases joinW_mem _ c hc with rfl | ⟨x, hx, hcx⟩
            · decide
            · rcases List.mem_append.1 hx with hx' | hx'
              · rcases wordsGo_mem _ [] x hx' c hcx with h | h
                · simp at h
                · exact hold c h
              · refine okp_of c ?_ ((hok x hx).2 c hcx)
                rcases wordsGo_mem _ [] x hx' c hcx with h | h
                · simp at h
                · exact hline c (List.mem_of_mem_drop h)
          · rw [hwj] at hx
            rcases List.mem_append.1 hx with hx | hx
            · exact hold2 x hx
            · exact hlong x hx
      · have e1 : costF (setBody fs (joinW (wordsL (lastBody fs) ++ wordsL (line.drop i)))) + costW (wordsL (lastBody fs)) = costF fs + costW (wordsL (lastBody fs)) + costW (wordsL (line.drop i)) := by
          have es : fs = fs.dropLast ++ [fs.getLast h0] := (List.dropLast_concat_getLast h0).symm
          have el := lastBody_eq fs h0
          generalize fs.getLast h0 = g at *
          generalize fs.dropLast = ds at *
          subst es
          rw [setBody_snoc ds g.name g.body, costF_snoc, costF_snoc]
          dsimp only
          rw [hwj, costW_app, ← el]; omega
        omega
theorem mem_checks {f : Fld} (h : checkL f.name f.body = 0) : validNameL f.name = true ∧ (∀ c ∈ f.body, okPrint c = true) ∧ (∀ x ∈ wordsL f.body, x.length ≤ 900) := by
  have hg := good_of_check h
  refine ⟨hg.name, fun c hc => ?_, fun x hx => (hg.words x hx).2.1⟩
  rw [← hg.can] at hc
  rcases joinW_mem _ c hc with rfl | ⟨x, hx, hcx⟩
  · decide
  · exact okp_of c ((hg.words x hx).2.2 c hcx).1 ((hg.words x hx).1.2 c hcx)
theorem step_kept (text : List UInt8) (pos : Nat) (fs fs' : List Fld) (pos' : Nat) (hp : pos < text.length) (hc : CanP fs) (hk : Kept2 pos fs) (h : stepP text pos fs = .inr (fs', pos')) : Kept2 pos' fs' := by
  unfold stepP at h
  have hle := spanL_le notNl (text.drop pos)
  split at h
  · cases h
  · split at h
    · cases h
    · split at h
      · cases h
      · rename_i h1 _ h3
        have hll : ((text.drop pos).take (spanL notNl (text.drop pos))).length = spanL notNl (text.drop pos) := by rw [List.length_take]; omega
        have hall : spanL okByte ((text.drop pos).take (spanL notNl (text.drop pos))) = ((text.drop pos).take (spanL notNl (text.drop pos))).length := by
          have := spanL_le okByte ((text.drop pos).take (spanL notNl (text.drop pos))); omega
        have hok := spanL_mem okByte _ hall
        generalize (text.drop pos).take (spanL notNl (text.drop pos)) = line at *
        clear hll hall h1 h3 hle
        have hpos := (lineE_can hc h).2
        unfold lineE at h
        split at h
        · split at h
          · cases h
          · rename_i h0
            have hlast := mem_checks (hk.good _ (List.getLast_mem h0))
            have hlb := lastBody_eq fs h0
            have hroom := wordsGo_room line []
            have hwl := wordsGo_len line []
            have := body_kept h0 (fun f hf => hk.good f (mem_dropLast hf)) hlast.1 hc.can (by rw [hlb]; exact hlast.2.1) (by rw [hlb]; exact hlast.2.2) hok (2 * pos') (by
              rw [List.drop_zero, hpos]
              have hk2 := hk.cost
              have e : costW (wordsL line) = sumL (wordsGo line []) + 2 * (wordsGo line []).length := rfl
              rw [e]
              simp at hroom hwl
              omega) h
            exact ⟨this.1, this.2⟩
        · split at h
          · cases h
          · rename_i hcol
            split at h
            · cases h
            · rename_i hval
              split at h
              · cases h
              · have hv : validNameL (line.take (colonP line)) = true := by simpa using hval
                have hcl : colonP line ≤ line.length := spanL_le notColon line
                have hcl2 : colonP line < line.length := Nat.lt_of_le_of_ne hcl hcol
                have hb1 : ∀ f ∈ (fs ++ [(⟨line.take (colonP line), []⟩ : Fld)]).dropLast, checkL f.name f.body = 0 := by
                  rw [List.dropLast_concat]; exact hk.good
                have hb2 : validNameL ((fs ++ [(⟨line.take (colonP line), []⟩ : Fld)]).getLast (by simp)).name = true := by
                  rw [List.getLast_concat]; exact hv
                have hb3 : lastBody (fs ++ [(⟨line.take (colonP line), []⟩ : Fld)]) = [] := lastBody_snoc _ _
                have hb4 : costF (fs ++ [(⟨line.take (colonP line), []⟩ : Fld)]) = costF fs + (colonP line + 2) := by
                  rw [costF_snoc]
                  have e0 : costW (wordsL ([] : List UInt8)) = 0 := rfl
                  dsimp only
                  rw [e0, List.length_take, Nat.min_eq_left hcl]
                have hb5 : costF fs + (colonP line + 2) + costW (wordsL (line.drop (colonP line + 1))) ≤ 2 * pos' := by
                  have hk2 := hk.cost
                  have hroom := wordsGo_room (line.drop (colonP line + 1)) []
                  have hwl := wordsGo_len (line.drop (colonP line + 1)) []
                  have e : costW (wordsL (line.drop (colonP line + 1))) = sumL (wordsGo (line.drop (colonP line + 1)) []) + 2 * (wordsGo (line.drop (colonP line + 1)) []).length := rfl
                  rw [e, hpos]
                  rw [List.length_drop] at hroom hwl
                  rw [if_pos rfl] at hwl
                  clear e hb1 hb2 hb3 hb4 h hv hval hok hcol
                  generalize sumL (wordsGo (line.drop (colonP line + 1)) []) = S at *
                  generalize (wordsGo (line.drop (colonP line + 1)) []).length = W at *
                  generalize costF fs = C at *
                  generalize colonP line = q at *
                  simp only [List.length_nil] at hroom
                  clear hc hk
                  omega
                have := body_kept (by simp) hb1 hb2 (by rw [hb3]; rfl) (by rw [hb3]; simp) (by rw [hb3]; intro x hx; simp [wordsL, wordsGo] at hx) hok (2 * pos') (by rw [hb4]; exact hb5) h
                exact ⟨this.1, this.2⟩
theorem Canonical_loop (s : ByteArray) (fs : List Fld) (hl : fs.length ≤ 64) (hg : ∀ f ∈ fs, checkL f.name f.body = 0) (R : Bool)
    (hend : Ev (fun k => (GV.Print.f k (fs.map toS)).bind fun bt205 => (if bt205.2 = 5 then ((GV.known.f).bind fun t207 => (if t207 = true then (some (decide ((s.size : Int) > 32768))) else (some false))) else ((GV.Parse.f bt205.1).bind fun bt208 => ((GV.known.f).bind fun t213 => (if t213 = true then (if bt205.2 = 0 then (if bt208.2.2 = 0 then ((PA.bulletinlaw09_Of.f k bt208.1).bind fun t214 => ((PA.bulletinlaw09_Of.f k (fs.map toS)).bind fun t217 => ((PA.bulletinref09_Same.f k t214 t217).bind fun t220 => (some t220)))) else (some false)) else (some false)) else (some false)))))) R) :
    ∀ d i : Nat, fs.length - i = d → i ≤ fs.length → Ev (fun k => PC.bulletinlaw09_FieldCanonical.l0 k s (fs.map toS) (i : Int)) R := by
  intro d
  induction d with
  | zero =>
    intro i hd hi
    refine Ev.next ?_
    simp only [PC.bulletinlaw09_FieldCanonical.l0, List.length_map]
    exact Ev.ite_neg (by omega) hend
  | succ d ih =>
    intro i hd hi
    have hlt : i < fs.length := by omega
    refine Ev.next ?_
    simp only [PC.bulletinlaw09_FieldCanonical.l0, List.length_map]
    rw [rd28 _ i (by rw [List.length_map]; exact hlt), List.getElem_map, wrap_nat i (by omega)]
    have hgi := hg fs[i] (List.getElem_mem hlt)
    have hgood := good_of_check hgi
    have hn := (valid_parts hgood.name).1
    refine Ev.ite_pos (by omega) (Ev.ite_pos (by omega) (Ev.bind (checkF fs[i].name fs[i].body (by omega) (by have := hgood.len; omega)) (Ev.ite_pos hgi (ih (i + 1) (by omega) (by omega)))))
theorem FieldCanonical_pure : PC.bulletinlaw09_FieldCanonical.Pure := by
  intro a ha
  obtain ⟨l, rfl⟩ : ∃ l, a = mkS l := ⟨a.data.toList, (mkS_data a).symm⟩
  refine Ev.at_ ?_
  unfold PC.bulletinlaw09_FieldCanonical.f
  have hs := mkS_size l
  have hm : mn ((mkS l).size : Int) 70000 = ((min l.length 70000 : Nat) : Int) := by rw [hs]; exact mn_nat l.length 70000
  rw [hm]
  refine Ev.ite_pos (by omega) (Ev.ite_pos (by omega) ?_)
  rw [Int.toNat_natCast, extract_take]
  have hlen : (l.take (min l.length 70000)).length ≤ 70000 := by rw [List.length_take]; omega
  generalize l.take (min l.length 70000) = t at *
  have hpl := parse_len t
  refine Ev.bind (Ev.const (GParse t (by omega))) ?_
  by_cases hz : (parseP t).2.2 = 0
  · refine Ev.ite_pos hz ?_
    obtain ⟨hcan, hk⟩ := parse_ind t Kept2 ⟨by simp, by simp [costF]⟩ (fun pos fs fs' pos' => step_kept t pos fs fs' pos') hz
    generalize (parseP t).1 = fs at *
    have hgood : ∀ f ∈ fs, GoodF f := fun f hf => good_of_check (hk.good f hf)
    have hsmall : ∀ f ∈ fs, f.name.length ≤ 1000000 ∧ f.body.length ≤ 1000000 := fun f hf => ⟨by have := (valid_parts (hgood f hf).name).1; omega, by have := (hgood f hf).len; omega⟩
    have hp : printP fs = if 65536 < (printL fs).length then ([], 5) else (printL fs, 0) := by
      unfold printP
      rw [if_neg (by omega)]
      have key : ∀ (gs : List Fld) (out : List UInt8), (∀ f ∈ gs, checkL f.name f.body = 0) → printGo gs out = if 65536 < (out ++ printL gs).length then ([], 5) else (out ++ printL gs, 0) := by
        intro gs
        induction gs with
        | nil => intro out _; unfold printGo; simp [printL]
        | cons g gs ih =>
          intro out h
          unfold printGo
          rw [if_pos (h g (by simp)), ih _ (fun f hf => h f (by simp [hf]))]
          have e : printL (g :: gs) = foldL g.name g.body ++ printL gs := by simp [printL]
          rw [e, List.append_assoc]
      rw [key fs [] hk.good, List.nil_append]
    have hpl2 := print_len fs
    have hcost := hk.cost
    refine Canonical_loop (mkS t) fs hpl hk.good true ?_ _ 0 rfl (by omega)
    refine Ev.bind (printF fs hsmall) ?_
    by_cases h6 : 65536 < (printL fs).length
    · rw [if_pos h6] at hp
      rw [hp]
      refine Ev.ite_pos rfl (Ev.bind (a := true) (Ev.const rfl) (Ev.ite_pos rfl (Ev.const ?_)))
      have : ((mkS t).size : Int) > 32768 := by rw [mkS_size]; omega
      rw [decide_eq_true this]
    · rw [if_neg h6] at hp
      rw [hp]
      have hg := GParse (printL fs) (by omega)
      rw [parse_print fs hgood hpl (by omega)] at hg
      refine Ev.ite_neg (by show ¬ ((0 : Int) = 5); decide) (Ev.bind (Ev.const hg) (Ev.bind (a := true) (Ev.const rfl) (Ev.ite_pos rfl (Ev.ite_pos rfl (Ev.ite_pos rfl ?_)))))
      refine Ev.bind (OfF (fs.map toS) (by rw [List.length_map]; omega)) (Ev.bind (OfF (fs.map toS) (by rw [List.length_map]; omega)) ?_)
      exact Ev.bind (SameF _ (by rw [List.length_map, List.length_map]; omega)) (Ev.const rfl)
  · refine Ev.ite_neg hz (Ev.bind (a := true) (Ev.const rfl) (Ev.ite_pos rfl (Ev.const ?_)))
    rw [parse_fail t hz]; rfl
end Go.Proofs.Ytfeciafdioepiaa
namespace Go.Proofs.Ytfeciafdioepiaa.Pure
theorem FieldCanonical : Go.Proofs.Ytfeciafdioepiaa.PC.bulletinlaw09_FieldCanonical.Pure := Go.Proofs.Ytfeciafdioepiaa.FieldCanonical_pure
end Go.Proofs.Ytfeciafdioepiaa.Pure
