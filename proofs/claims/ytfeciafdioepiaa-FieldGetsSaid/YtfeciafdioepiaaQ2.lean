/- Merged texts: P3c, P3r -/
import Derived.Test.YtfeciafdioepiaaQ1
import Derived.Test.YtfeciafdioepiaaPAc
import Derived.Test.YtfeciafdioepiaaPA5
set_option linter.unusedVariables false
set_option linter.unusedSimpArgs false
/- Plain: what a law cuts off. -/
namespace Go.Proofs.Ytfeciafdioepiaa
open Go.RowKit Go.Proofs Go.Proofs.YtfeciafdioepiaaW.PrintWords Go.Proofs.Ytfeciafdioepiaa.PA

/-! ### cut -/
def cutF (x : S25) : S25 := ⟨mkS (x.f0.data.toList.take 60), mkS (x.f1.data.toList.take 9000)⟩
def cutL (l : List S25) : List S25 := (l.take 70).map cutF
theorem extract_min (s : ByteArray) (m : Nat) : s.extract 0 (((min s.size m : Nat) : Int).toNat) = mkS (s.data.toList.take m) := by
  rw [Int.toNat_natCast, extract_mk, List.drop_zero, Nat.sub_zero]
  congr 1
  have : s.data.toList.length = s.size := by simp
  rw [← this, List.take_eq_take_iff]; omega
theorem cut_loop (l : List S25) : ∀ d i : Nat, min l.length 70 - i = d → i ≤ min l.length 70 →
    Ev (fun k => bulletinlaw09_cut.l0 k l ((l.take i).map cutF) (i : Int)) (cutL l) := by
  intro d
  induction d with
  | zero =>
    intro i hd hi
    refine Ev.next ?_
    simp only [bulletinlaw09_cut.l0]
    have he : cutL l = (l.take i).map cutF := by
      unfold cutL; congr 1
      rw [List.take_eq_take_iff]; omega
    rw [he]
    by_cases h : i < l.length
    · exact Ev.ite_pos (by omega) (Ev.ite_neg (by omega) (Ev.const rfl))
    · exact Ev.ite_neg (by omega) (Ev.const rfl)
  | succ d ih =>
    intro i hd hi
    have hlt : i < l.length := by omega
    have hw := wrap_nat i (by omega)
    refine Ev.next ?_
    simp only [bulletinlaw09_cut.l0]
    have hm1 : mn ((l[i].f0.size : Nat) : Int) 60 = ((min l[i].f0.size 60 : Nat) : Int) := mn_nat _ 60
    have hm2 : mn ((l[i].f1.size : Nat) : Int) 9000 = ((min l[i].f1.size 9000 : Nat) : Int) := mn_nat _ 9000
    rw [rd25 l i hlt, hw, hm1, hm2, extract_min, extract_min]
    refine Ev.ite_pos (by omega) (Ev.ite_pos (by omega) (Ev.ite_pos (by omega) (Ev.ite_pos (by omega) (Ev.ite_pos (by omega) (Ev.ite_pos (by omega) (Ev.ite_pos (by omega) (Ev.ite_pos (by simp; omega) ?_)))))))
    have := ih (i + 1) (by omega) (by omega)
    rw [List.take_succ_eq_append_getElem hlt, List.map_append] at this
    exact this
theorem cutLF (l : List S25) : Ev (fun k => bulletinlaw09_cut.f k l) (cutL l) := cut_loop l _ 0 rfl (by omega)

end Go.Proofs.Ytfeciafdioepiaa

/- Plain: Check and Fold of the reference. -/
namespace Go.Proofs.Ytfeciafdioepiaa
open Go.RowKit Go.Proofs Go.Proofs.YtfeciafdioepiaaW.PrintWords Go.Proofs.Ytfeciafdioepiaa.PA

theorem refCheck_loop (ws : List (List UInt8)) (hl : ws.length ≤ 1000000) : ∀ d i : Nat, ws.length - i = d → i ≤ ws.length →
    Ev (fun k => bulletinref09_Check.l0 k (ws.map mkS) (i : Int)) (if (ws.drop i).any (fun x => decide (900 < x.length)) = true then 5 else 0) := by
  intro d
  induction d with
  | zero =>
    intro i hd hi
    refine Ev.next ?_
    simp only [bulletinref09_Check.l0, List.length_map]
    refine Ev.ite_neg (by omega) (Ev.const ?_)
    rw [List.drop_eq_nil_of_le (by omega)]; rfl
  | succ d ih =>
    intro i hd hi
    have hlt : i < ws.length := by omega
    have hw := wrap_nat i (by omega)
    refine Ev.next ?_
    simp only [bulletinref09_Check.l0, List.length_map]
    refine Ev.ite_pos (by omega) (Ev.ite_pos (by omega) ?_)
    rw [rdOf_map ws i hlt, hw, mkS_size, List.drop_eq_getElem_cons hlt, List.any_cons]
    by_cases h : 900 < ws[i].length
    · refine Ev.ite_pos (by omega) (Ev.const ?_)
      simp [h]
    · refine Ev.ite_neg (by omega) ((ih (i + 1) (by omega) (by omega)).is ?_)
      simp [h]
theorem refCheckF (n b : List UInt8) (hn : n.length ≤ 1000000) (hb : b.length ≤ 1000000) : Ev (fun k => bulletinref09_Check.f k (mkS n) (mkS b)) (checkL n b) := by
  unfold bulletinref09_Check.f checkL
  refine Ev.bind ⟨n.length + 2, fun k hk => refValidF n hn k hk⟩ ?_
  by_cases h1 : validNameL n = true
  · refine Ev.rpos h1 ?_
    refine Ev.ite_pos h1 (Ev.bind (refPrintableF b hb) ?_)
    by_cases h2 : printableZ b ≥ 0
    · refine Ev.rpos h2 ?_; exact Ev.ite_pos h2 (Ev.const rfl)
    · refine Ev.rneg h2 ?_
      refine Ev.ite_neg h2 (Ev.bind (refSqueezeF b hb) ?_)
      rw [toList_mk, toList_mk]
      by_cases h3 : joinW (wordsL b) = b
      · refine Ev.rpos h3 ?_
        refine Ev.ite_pos h3 ?_
        rw [mkS_size]
        by_cases h4 : 8192 < b.length
        · refine Ev.rpos h4 ?_; exact Ev.ite_pos (by omega) (Ev.const rfl)
        · refine Ev.rneg h4 ?_
          refine Ev.ite_neg (by omega) (Ev.bind (refWordsF b hb) ?_)
          have h5 := wordsL_len b
          exact refCheck_loop (wordsL b) (by omega) _ 0 rfl (by omega)
      · refine Ev.rneg h3 ?_; exact Ev.ite_neg h3 (Ev.const rfl)
  · refine Ev.rneg h1 ?_; exact Ev.ite_neg h1 (Ev.const rfl)

theorem refFold_loop (ws : List (List UInt8)) (hl : ws.length ≤ 1000000) (hs : sumL ws ≤ 1000000) : ∀ d i : Nat, ws.length - i = d → i ≤ ws.length → ∀ out line : List UInt8, out.length + line.length ≤ 2000000 + 2000000 * i →
    Ev (fun k => bulletinref09_Fold.l0 k (mkS out) (mkS line) (ws.map mkS) (i : Int)) (mkS (foldW (ws.drop i) out line (decide (i = 0)))) := by
  intro d
  induction d with
  | zero =>
    intro i hd hi out line hol
    refine Ev.next ?_
    simp only [bulletinref09_Fold.l0, List.length_map]
    have h6 : (mkS out).size + (mkS line).size ≤ 9223372036854775807 := by rw [mkS_size, mkS_size]; omega
    have h7 : (mkS (out ++ line)).size + 1 ≤ 9223372036854775807 := by rw [mkS_size, List.length_append]; omega
    refine Ev.ite_neg (by omega) (Ev.ite_pos h6 ?_)
    rw [mkS_one, mkS_append, mkS_append]
    refine Ev.ite_pos h7 (Ev.const ?_)
    rw [List.drop_eq_nil_of_le (by omega)]
    simp [foldW]
  | succ d ih =>
    intro i hd hi out line hol
    have hlt : i < ws.length := by omega
    have hw := wrap_nat i (by omega)
    have h3 := sumL_mem ws i hlt
    have h5 : (mkS ws[i]).size = ws[i].length := mkS_size _
    have h6 : (mkS line).size = line.length := mkS_size _
    have h7 : (mkS (line ++ [32])).size = line.length + 1 := by rw [mkS_size, List.length_append, List.length_singleton]
    refine Ev.next ?_
    simp only [bulletinref09_Fold.l0, List.length_map]
    refine Ev.ite_pos (by omega) ?_
    rw [rdOf_map ws i hlt, hw, List.drop_eq_getElem_cons hlt]
    rw [mkS_one, mkS_append]
    by_cases h0 : i = 0
    · refine Ev.ite_pos (by omega) (Ev.ite_pos (by omega) (Ev.ite_pos (by omega) (Ev.ite_pos (by omega) ?_)))
      rw [mkS_append]
      refine (ih (i + 1) (by omega) (by omega) out (line ++ [32] ++ ws[i]) (by simp; omega)).is ?_
      conv => rhs; unfold foldW
      rw [if_neg (by simp [h0])]
      simp
    · refine Ev.ite_neg (by omega) (Ev.ite_pos (by omega) ?_)
      have hwr : wrap64 (wrap64 (((mkS line).size : Int) + 1) + ((mkS ws[i]).size : Int)) = ((line.length + 1 + ws[i].length : Nat) : Int) := by rw [h5, h6, wrap_nat _ (by omega), wrap_add _ _ (by omega)]
      rw [hwr]
      clear hwr hw
      by_cases hfit : line.length + 1 + ws[i].length ≤ 78
      · have hf' : ((line.length + 1 + ws[i].length : Nat) : Int) ≤ 78 := by omega
        have hg' : (mkS line).size + 1 ≤ 9223372036854775807 := by omega
        have hh' : (mkS (line ++ [32])).size + (mkS ws[i]).size ≤ 9223372036854775807 := by omega
        refine Ev.ite_pos hf' ?_
        refine Ev.ite_pos hg' ?_
        refine Ev.ite_pos hh' ?_
        rw [mkS_append]
        refine (ih (i + 1) (by omega) (by omega) out (line ++ [32] ++ ws[i]) (by simp; omega)).is ?_
        conv => rhs; unfold foldW
        rw [if_neg (by simp [h0]; omega)]
        simp
      · have h8 : (mkS out).size + (mkS line).size ≤ 9223372036854775807 := by rw [mkS_size, mkS_size]; omega
        have h9 : (mkS (out ++ line)).size + 1 ≤ 9223372036854775807 := by rw [mkS_size, List.length_append]; omega
        refine Ev.ite_neg (by omega) (Ev.ite_pos h8 ?_)
        rw [mkS_append, mkS_one, mkS_append, mkS_append]
        refine Ev.ite_pos h9 (Ev.ite_pos (by omega) ?_)
        refine (ih (i + 1) (by omega) (by omega) (out ++ line ++ [10]) ([32] ++ ws[i]) (by simp; omega)).is ?_
        conv => rhs; unfold foldW
        rw [if_pos ⟨by simp [h0], by omega⟩]
        simp
theorem refFoldF (n b : List UInt8) (hn : n.length ≤ 1000000) (hb : b.length ≤ 1000000) : Ev (fun k => bulletinref09_Fold.f k (mkS n) (mkS b)) (mkS (foldL n b)) := by
  unfold bulletinref09_Fold.f
  have h5 := wordsL_len b
  have h6 := wordsL_sum b
  refine Ev.ite_pos (by rw [mkS_size]; omega) (Ev.bind (refWordsF b hb) ?_)
  rw [mkS_one, mkS_append]
  exact refFold_loop (wordsL b) (by omega) (by omega) _ 0 rfl (by omega) [] (n ++ [58]) (by simp; omega)

end Go.Proofs.Ytfeciafdioepiaa
