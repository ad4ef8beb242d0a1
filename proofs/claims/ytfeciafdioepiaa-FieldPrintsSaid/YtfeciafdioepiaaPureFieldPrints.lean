/- Plain: the law of the printing. -/
import Derived.Test.YtfeciafdioepiaaQ3
import Derived.Test.YtfeciafdioepiaaQ2
import Derived.Test.YtfeciafdioepiaaQ5
import Derived.Test.YtfeciafdioepiaaPC5
set_option linter.unusedVariables false
set_option linter.unusedSimpArgs false
namespace Go.Proofs.Ytfeciafdioepiaa
open Go.RowKit Go.Proofs Go.Proofs.YtfeciafdioepiaaW.PrintWords Go.Proofs.Ytfeciafdioepiaa.PA

theorem refPrint_loop (fs : List Fld) (hf : ∀ f ∈ fs, f.name.length ≤ 1000000 ∧ f.body.length ≤ 1000000) (hl : fs.length ≤ 64) : ∀ d i : Nat, fs.length - i = d → i ≤ fs.length → ∀ out : List UInt8, out.length ≤ 4000000 * i →
    Ev (fun k => bulletinref09_Print.l0 k (fs.map toR) (mkS out) (i : Int)) (mkS (printGo (fs.drop i) out).1, (printGo (fs.drop i) out).2) := by
  intro d
  induction d with
  | zero =>
    intro i hd hi out ho
    refine Ev.next ?_
    simp only [bulletinref09_Print.l0, List.length_map]
    refine Ev.ite_neg (by omega) ?_
    rw [List.drop_eq_nil_of_le (by omega), mkS_size]
    unfold printGo
    by_cases h : 65536 < out.length
    · refine Ev.ite_pos (by omega) (Ev.const ?_); rw [if_pos h]; rfl
    · refine Ev.ite_neg (by omega) (Ev.const ?_); rw [if_neg h]
  | succ d ih =>
    intro i hd hi out ho
    have hlt : i < fs.length := by omega
    obtain ⟨hn, hb⟩ := hf fs[i] (List.getElem_mem hlt)
    have hsm := foldL_small fs[i].name fs[i].body hn hb
    refine Ev.next ?_
    simp only [bulletinref09_Print.l0, List.length_map]
    rw [rd25 _ i (by rw [List.length_map]; exact hlt), List.getElem_map, List.drop_eq_getElem_cons hlt, wrap_nat i (by omega)]
    refine Ev.ite_pos (by omega) (Ev.ite_pos (by omega) (Ev.bind (refCheckF _ _ hn hb) ?_))
    by_cases h : checkL fs[i].name fs[i].body = 0
    · have e : printGo (fs[i] :: fs.drop (i + 1)) out = printGo (fs.drop (i + 1)) (out ++ foldL fs[i].name fs[i].body) := by
        conv => lhs; unfold printGo
        rw [if_pos h]
      rw [e]
      have h6 : (mkS out).size + (mkS (foldL fs[i].name fs[i].body)).size ≤ 9223372036854775807 := by rw [mkS_size, mkS_size]; omega
      refine Ev.ite_pos h (Ev.bind (refFoldF _ _ hn hb) (Ev.ite_pos h6 ?_))
      rw [mkS_append]
      exact ih (i + 1) (by omega) (by omega) _ (by rw [List.length_append]; omega)
    · have e : printGo (fs[i] :: fs.drop (i + 1)) out = ([], checkL fs[i].name fs[i].body) := by
        conv => lhs; unfold printGo
        rw [if_neg h]
      rw [e]
      exact Ev.ite_neg h (Ev.const rfl)
theorem refPrintF (fs : List Fld) (hf : ∀ f ∈ fs, f.name.length ≤ 1000000 ∧ f.body.length ≤ 1000000) : Ev (fun k => bulletinref09_Print.f k (fs.map toR)) (mkS (printP fs).1, (printP fs).2) := by
  unfold bulletinref09_Print.f printP
  rw [List.length_map]
  by_cases h : 64 < fs.length
  · rw [if_pos h]; exact Ev.ite_pos (by omega) (Ev.const rfl)
  · rw [if_neg h]
    exact Ev.ite_neg (by omega) (refPrint_loop fs hf (by omega) _ 0 rfl (by omega) [] (by simp))
/-- The fields of a cut row. -/
def cutFld (x : S25) : Fld := ⟨x.f0.data.toList.take 60, x.f1.data.toList.take 9000⟩
theorem cutL_fld (l : List S25) : cutL l = ((l.take 70).map cutFld).map toR := by unfold cutL; rw [List.map_map]; rfl
theorem cutFld_small (l : List S25) : ∀ f ∈ (l.take 70).map cutFld, f.name.length ≤ 1000000 ∧ f.body.length ≤ 1000000 := by
  intro f hf
  rw [List.mem_map] at hf
  obtain ⟨x, _, rfl⟩ := hf
  unfold cutFld
  simp only [List.length_take]
  omega
theorem FieldPrints_pure (l : List S25) : ∃ k, PC.bulletinlaw09_FieldPrints.f k l = some true := by
  refine Ev.at_ ?_
  unfold PC.bulletinlaw09_FieldPrints.f
  refine Ev.bind (cutLF l) ?_
  rw [cutL_fld]
  have hsm := cutFld_small l
  have hlen : ((l.take 70).map cutFld).length ≤ 70 := by rw [List.length_map, List.length_take]; omega
  generalize (l.take 70).map cutFld = fs at *
  refine Ev.bind (ToF (fs.map toR) (by rw [List.length_map]; exact hlen)) ?_
  have ht : (fs.map toR).map sTo = fs.map toS := by rw [List.map_map]; rfl
  rw [ht]
  refine Ev.bind (printF fs hsm) (Ev.bind (refPrintF fs hsm) (Ev.ite_pos rfl ?_))
  refine Ev.next ?_
  simp only [PC.bulletinlaw09_FieldPrints.j0]
  refine Ev.ite_neg (by simp) ?_
  by_cases h : (printP fs).2 = 0
  · have hp := printP_ok fs h
    have hps := printP_small fs
    have hg := GParse (printP fs).1 (by omega)
    rw [hp] at hg
    refine Ev.ite_pos h (Ev.bind (Ev.const hg) (Ev.bind (a := true) (Ev.const rfl) (Ev.ite_pos rfl ?_)))
    refine Ev.bind (OfF (fs.map toS) (by rw [List.length_map]; omega)) ?_
    have ho : (fs.map toS).map sOf = fs.map toR := by rw [List.map_map]; rfl
    show Ev (fun n => (bulletinref09_Same.f n ((fs.map toS).map sOf) (fs.map toR)).bind _) true
    rw [ho]
    exact Ev.bind (SameF _ (by rw [List.length_map]; omega)) (Ev.ite_pos rfl (Ev.ite_pos rfl (Ev.const rfl)))
  · exact Ev.ite_neg h (Ev.bind (a := true) (Ev.const rfl) (Ev.const rfl))
end Go.Proofs.Ytfeciafdioepiaa
