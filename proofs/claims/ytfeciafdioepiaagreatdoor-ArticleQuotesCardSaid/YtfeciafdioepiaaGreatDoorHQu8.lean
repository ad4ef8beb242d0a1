/- The row of ArticleQuotes over the listed tables, and its tied card. -/
import Derived.Test.YtfeciafdioepiaaGreatDoorHQu7
import Derived.Test.YtfeciafdioepiaaGreatDoorHQu5
import Derived.Test.YtfeciafdioepiaaGreatDoorHQu6
import Derived.Test.YtfeciafdioepiaaGreatDoorHQu0
import Derived.Test.YtfeciafdioepiaaGreatDoorHQu3
import Derived.Test.YtfeciafdioepiaaGreatDoorRows
import Derived.Test.YtfeciafdioepiaaGreatDoorCards
import Derived.Test.YtfeciafdioepiaaGreatDoorTie
import Derived.WalkKit
import Derived.ProofKit
import Derived.OpenShut
import Derived.ShutString
import Derived.ChangeOld
import Derived.Below
import Derived.SizedLaws
import Derived.HandedShaped
set_option linter.unusedVariables false
set_option linter.unusedSimpArgs false
namespace Go.Proofs.YtfeciafdioepiaaGreatDoor
open Go.RowKit Go.Proofs Go.Proofs.YtfeciafdioepiaaGreatDoorW.PrintWords Go.Proofs.YtfeciafdioepiaaGreatDoor.PA

theorem extract_line (l : List UInt8) (i : Nat) : (mkS l).extract i (i + lineN (l.drop i)) = mkS ((l.drop i).take (lineN (l.drop i))) := by
  rw [extract_mk, mkS_toList]
  congr 2
  omega
theorem refLines (l : List UInt8) (hl : l.length ≤ 900000) : ∀ (f j k i : Nat) (acc : List ByteArray), l.length - i ≤ f → l.length + f + 1 < k → acc.length + f ≤ 2000000 →
    bulletinref15_Lines.l0 k (mkS l) acc (i : Int) = some (acc ++ (linesG f j (l.drop i)).map fun x => mkS x.2) := by
  intro f
  induction f with
  | zero =>
    intro j k i acc hf hk ha
    obtain ⟨k, rfl⟩ : ∃ m, k = m + 1 := ⟨k - 1, by omega⟩
    unfold bulletinref15_Lines.l0
    rw [if_neg (by rw [mkS_size]; omega)]
    simp [linesG]
  | succ f ih =>
    intro j k i acc hf hk ha
    obtain ⟨k, rfl⟩ : ∃ m, k = m + 1 := ⟨k - 1, by omega⟩
    unfold bulletinref15_Lines.l0
    by_cases hlt : i < l.length
    · have hne : l.drop i ≠ [] := by
        intro h
        have := congrArg List.length h
        rw [List.length_drop] at this
        simp at this; omega
      have hle := lineN_le (l.drop i)
      rw [List.length_drop] at hle
      rw [if_pos (by rw [mkS_size]; omega), endF l (by omega) k i (by omega) (by omega), linesG_cons hne]
      simp only [Option.bind_some]
      rw [if_pos (by omega), if_pos (by omega), if_pos (by rw [mkS_size]; omega), if_pos (by omega), wrap64_small (by omega) (by omega)]
      rw [show ((i + lineN (l.drop i) : Nat) : Int) + 1 = ((i + (lineN (l.drop i) + 1) : Nat) : Int) by omega]
      rw [ih (j + 1) k (i + (lineN (l.drop i) + 1)) _ (by omega) (by omega) (by simp; omega)]
      rw [show ((i : Nat) : Int).toNat = i by omega, show ((i + lineN (l.drop i) : Nat) : Int).toNat = i + lineN (l.drop i) by omega, extract_line, List.drop_drop]
      simp
    · have h1 : l.drop i = [] := List.drop_eq_nil_of_le (by omega)
      rw [if_neg (by rw [mkS_size]; omega), h1, linesG_nil]
      simp
theorem refLinesF (l : List UInt8) (hl : l.length ≤ 900000) (k : Nat) (hk : 2 * l.length + 1 < k) : bulletinref15_Lines.f k (mkS l) = some ((linesU l).map fun x => mkS x.2) := by
  have := refLines l hl l.length 0 k 0 [] (by omega) (by omega) (by simp; omega)
  simpa [bulletinref15_Lines.f, linesU] using this
end Go.Proofs.YtfeciafdioepiaaGreatDoor
set_option linter.unusedVariables false
set_option linter.unusedSimpArgs false
namespace Go.Proofs.YtfeciafdioepiaaGreatDoor
open Go.RowKit Go.Proofs Go.Proofs.YtfeciafdioepiaaGreatDoorW.PrintWords Go.Proofs.YtfeciafdioepiaaGreatDoorW.PrintMore Go.Proofs.YtfeciafdioepiaaGreatDoor.PA

/-- What a body's check answers, from a line's offset on; f: more than enough rounds. -/
def bodyG : Nat → Nat → List UInt8 → Int × Int
  | 0, _, _ => (0, 0)
  | f + 1, i, l => if l = [] then (0, 0) else if lineN l = l.length then (((i + l.length : Nat) : Int), 4)
    else if 998 < lineN l then (((i + 998 : Nat) : Int), 5)
    else if 0 ≤ badU (l.take (lineN l)) then ((i : Int) + badU (l.take (lineN l)), 6)
    else bodyG f (i + (lineN l + 1)) (l.drop (lineN l + 1))
def bodyU (l : List UInt8) : Int × Int := bodyG l.length 0 l
theorem bodyG_nil (f i : Nat) : bodyG f i [] = (0, 0) := by cases f <;> simp [bodyG]
theorem runesG_off (f : Nat) : ∀ k l, (∀ x ∈ (runesG f k l).1, x.1 ≤ k + l.length) ∧ ∀ p, (runesG f k l).2 = some p → p ≤ k + l.length := by
  induction f with
  | zero => intro k l; simp [runesG]
  | succ f ih =>
    intro k l
    by_cases h0 : l = []
    · subst h0; rw [runesG_nil]; simp
    · cases hd : decR l with
      | none =>
        rw [runesG_none h0 hd]
        refine ⟨by simp, fun p hp => ?_⟩
        injection hp with hp; omega
      | some q =>
        obtain ⟨v, n⟩ := q
        rw [runesG_some hd]
        obtain ⟨h1, h2⟩ := ih (k + n) (l.drop n)
        have hn := (decR_pos hd).2.1
        rw [List.length_drop] at h1 h2
        refine ⟨fun x hx => ?_, fun p hp => ?_⟩
        · rcases List.mem_cons.1 hx with rfl | hx
          · simp only []; omega
          · have := h1 x hx; omega
        · have := h2 p hp; omega
theorem badU_le (l : List UInt8) : -1 ≤ badU l ∧ badU l ≤ (l.length : Int) := by
  obtain ⟨h1, h2⟩ := runesG_off l.length 0 l
  have hr : runesG l.length 0 l = runesU l := rfl
  rw [hr] at h1 h2
  unfold badU
  cases hf : (runesU l).1.find? (fun x => badV x.2) with
  | some x =>
    have := h1 x (List.mem_of_find?_eq_some hf)
    simp only []; omega
  | none =>
    cases he : (runesU l).2 with
    | none => simp only []; omega
    | some q => have := h2 q he; simp only []; omega
theorem drop_ne {l : List UInt8} {i : Nat} (h : i < l.length) : l.drop i ≠ [] := by
  intro h1
  have := congrArg List.length h1
  rw [List.length_drop] at this
  simp at this; omega
theorem checkBody_loop (l : List UInt8) (hl : l.length ≤ 900000) : ∀ f i : Nat, l.length - i ≤ f → i ≤ l.length → Ev (fun k => PC.article_CheckBody.l0 k (mkS l) (i : Int)) (bodyG f i (l.drop i)) := by
  intro f
  induction f with
  | zero =>
    intro i hf hi
    refine Ev.next ?_
    simp only [PC.article_CheckBody.l0, mkS_size]
    exact Ev.ite_neg (by omega) (Ev.const rfl)
  | succ f ih =>
    intro i hf hi
    by_cases hlt : i < l.length
    · have hne := drop_ne hlt
      have e1 : (mkS l).extract ((i : Int)).toNat l.length = mkS (l.drop i) := by
        rw [Int.toNat_natCast, extract_mk, mkS_toList, List.take_of_length_le]; rw [List.length_drop]; omega
      have hld : (l.drop i).length = l.length - i := List.length_drop ..
      have hln := lineN_le (l.drop i)
      have hcut : GV.Cut.f (mkS (l.drop i)) ⟨#[10]⟩ = some (mkS ((l.drop i).take (lineN (l.drop i))), mkS ((l.drop i).drop (lineN (l.drop i) + 1)), hasNl (l.drop i)) := by
        unfold GV.Cut.f
        rw [if_pos ⟨rfl, by rw [mkS_size]; omega⟩, mkS_toList]
      refine Ev.next ?_
      simp only [PC.article_CheckBody.l0, mkS_size]
      rw [e1, hcut]
      refine Ev.ite_pos (by omega) (Ev.ite_pos (by omega) (Ev.ite_pos (by omega) ?_))
      simp only [Option.bind_some, mkS_size]
      unfold bodyG
      rw [if_neg hne]
      have htk : ((l.drop i).take (lineN (l.drop i))).length = lineN (l.drop i) := by rw [List.length_take]; omega
      rw [htk]
      by_cases h1 : lineN (l.drop i) = (l.drop i).length
      · rw [if_pos h1]
        refine Ev.ite_neg (by unfold hasNl; simp; omega) (Ev.const ?_)
        rw [show i + (l.drop i).length = l.length by omega]
      · rw [if_neg h1]
        refine Ev.ite_pos (by unfold hasNl; simp; omega) ?_
        by_cases h2 : 998 < lineN (l.drop i)
        · rw [if_pos h2]
          refine Ev.ite_pos (by omega) (Ev.const ?_)
          rw [show (998 : Int) = ((998 : Nat) : Int) from rfl, wrap_add i 998 (by omega)]
        · rw [if_neg h2]
          refine Ev.ite_neg (by omega) ?_
          have hbad : GV.badByte.f (mkS ((l.drop i).take (lineN (l.drop i)))) = some (badU ((l.drop i).take (lineN (l.drop i)))) := by
            unfold GV.badByte.f
            rw [if_pos (by rw [mkS_size]; omega), mkS_toList]
          rw [hbad]
          simp only [Option.bind_some]
          have hb := badU_le ((l.drop i).take (lineN (l.drop i)))
          rw [htk] at hb
          by_cases h3 : 0 ≤ badU ((l.drop i).take (lineN (l.drop i)))
          · rw [if_pos h3]
            refine Ev.ite_pos h3 (Ev.const ?_)
            rw [wrap64_small (by omega) (by omega)]
          · rw [if_neg h3]
            refine Ev.ite_neg h3 ?_
            have hw : wrap64 ((i : Int) + wrap64 ((lineN (l.drop i) : Int) + 1)) = ((i + (lineN (l.drop i) + 1) : Nat) : Int) := by
              rw [wrap_nat _ (by omega), wrap_add _ _ (by omega)]
            rw [hw, List.drop_drop]
            exact ih _ (by omega) (by omega)
    · rw [List.drop_eq_nil_of_le (by omega), bodyG_nil]
      refine Ev.next ?_
      simp only [PC.article_CheckBody.l0, mkS_size]
      exact Ev.ite_neg (by omega) (Ev.const rfl)
theorem checkBodyF (l : List UInt8) (hl : l.length ≤ 900000) : Ev (fun k => PC.article_CheckBody.f k (mkS l)) (bodyU l) := by
  have := checkBody_loop l hl l.length 0 (by omega) (by omega)
  rw [List.drop_zero] at this
  exact this
theorem refEndE (l : List UInt8) (hl : l.length ≤ 1000000) (i : Nat) (hi : i ≤ l.length) : Ev (fun k => bulletinref15_end.f k (mkS l) (i : Int)) ((i + lineN (l.drop i) : Nat) : Int) :=
  ⟨l.length - i + 1, fun k hk => endF l hl k i (by omega) hi⟩
theorem refBody_loop (l : List UInt8) (hl : l.length ≤ 900000) : ∀ f i : Nat, l.length - i ≤ f → i ≤ l.length → Ev (fun k => bulletinref15_Body.l0 k (mkS l) (i : Int)) (bodyG f i (l.drop i)) := by
  intro f
  induction f with
  | zero =>
    intro i hf hi
    refine Ev.next ?_
    simp only [bulletinref15_Body.l0, mkS_size]
    exact Ev.ite_neg (by omega) (Ev.const rfl)
  | succ f ih =>
    intro i hf hi
    by_cases hlt : i < l.length
    · have hne := drop_ne hlt
      have hld : (l.drop i).length = l.length - i := List.length_drop ..
      have hln := lineN_le (l.drop i)
      have e1 : (mkS l).extract ((i : Int)).toNat (((i + lineN (l.drop i) : Nat) : Int)).toNat = mkS ((l.drop i).take (lineN (l.drop i))) := by
        rw [Int.toNat_natCast, Int.toNat_natCast]; exact extract_line l i
      refine Ev.next ?_
      simp only [bulletinref15_Body.l0, mkS_size]
      refine Ev.ite_pos (by omega) (Ev.bind (refEndE l (by omega) i hi) ?_)
      unfold bodyG
      rw [if_neg hne]
      have htk : ((l.drop i).take (lineN (l.drop i))).length = lineN (l.drop i) := by rw [List.length_take]; omega
      by_cases h1 : lineN (l.drop i) = (l.drop i).length
      · rw [if_pos h1]
        refine Ev.ite_pos (by omega) (Ev.const ?_)
        rw [show i + (l.drop i).length = l.length by omega]
      · rw [if_neg h1]
        refine Ev.ite_neg (by omega) ?_
        have hw1 : wrap64 (((i + lineN (l.drop i) : Nat) : Int) - (i : Int)) = (lineN (l.drop i) : Int) := by
          rw [show ((i + lineN (l.drop i) : Nat) : Int) - (i : Int) = (lineN (l.drop i) : Int) by omega, wrap64_small (by omega) (by omega)]
        rw [hw1]
        by_cases h2 : 998 < lineN (l.drop i)
        · rw [if_pos h2]
          refine Ev.ite_pos (by omega) (Ev.const ?_)
          rw [show (998 : Int) = ((998 : Nat) : Int) from rfl, wrap_add i 998 (by omega)]
        · rw [if_neg h2]
          refine Ev.ite_neg (by omega) (Ev.ite_pos (by omega) (Ev.ite_pos (by omega) (Ev.ite_pos (by omega) ?_)))
          rw [e1]
          refine Ev.bind (refBadF _ (by omega)) ?_
          have hb := badU_le ((l.drop i).take (lineN (l.drop i)))
          rw [htk] at hb
          by_cases h3 : 0 ≤ badU ((l.drop i).take (lineN (l.drop i)))
          · rw [if_pos h3]
            refine Ev.ite_pos h3 (Ev.const ?_)
            rw [wrap64_small (by omega) (by omega)]
          · rw [if_neg h3]
            refine Ev.ite_neg h3 ?_
            rw [wrap_nat _ (by omega), List.drop_drop]
            exact ih _ (by omega) (by omega)
    · rw [List.drop_eq_nil_of_le (by omega), bodyG_nil]
      refine Ev.next ?_
      simp only [bulletinref15_Body.l0, mkS_size]
      exact Ev.ite_neg (by omega) (Ev.const rfl)
theorem refBodyF (l : List UInt8) (hl : l.length ≤ 900000) : Ev (fun k => bulletinref15_Body.f k (mkS l)) (bodyU l) := by
  have := refBody_loop l hl l.length 0 (by omega) (by omega)
  rw [List.drop_zero] at this
  exact this
/-- A text that is cut. -/
theorem shortF (l : List UInt8) (n : Nat) (hn : n ≤ 1000000) : bulletinlaw15_short.f (mkS l) (n : Int) = some (mkS (l.take n)) := by
  unfold bulletinlaw15_short.f
  rw [mkS_size, mn_nat l.length n, if_pos (by omega), if_pos (by omega), Int.toNat_natCast, extract_mk, mkS_toList, List.drop_zero, Nat.sub_zero]
  congr 2
  rw [Nat.min_comm, ← List.take_take, List.take_length]
end Go.Proofs.YtfeciafdioepiaaGreatDoor
set_option linter.unusedVariables false
set_option linter.unusedSimpArgs false
namespace Go.Proofs.YtfeciafdioepiaaGreatDoor
open Go.RowKit Go.Proofs Go.Proofs.YtfeciafdioepiaaGreatDoorW.PrintWords Go.Proofs.YtfeciafdioepiaaGreatDoorW.PrintMore Go.Proofs.YtfeciafdioepiaaGreatDoor.PA

/-! ### lines -/
theorem linesG_small (f : Nat) : ∀ (i : Nat) (l : List UInt8), (linesG f i l).length ≤ f ∧ ∀ x ∈ linesG f i l, x.2.length ≤ l.length ∧ ∀ c ∈ x.2, notNl c = true := by
  induction f with
  | zero => intro i l; simp [linesG]
  | succ f ih =>
    intro i l
    by_cases h : l = []
    · subst h; rw [linesG_nil]; simp
    · rw [linesG_cons h]
      obtain ⟨h1, h2⟩ := ih (i + 1) (l.drop (lineN l + 1))
      refine ⟨by simp; omega, fun x hx => ?_⟩
      rcases List.mem_cons.1 hx with rfl | hx
      · refine ⟨by simp only [List.length_take]; omega, fun c hc => ?_⟩
        have hle := lineN_le l
        have hs : spanL notNl (l.take (lineN l)) = (l.take (lineN l)).length := by
          have : ∀ (l : List UInt8) (p : UInt8 → Bool), spanL p (l.take (spanL p l)) = (l.take (spanL p l)).length := by
            intro l p
            induction l with
            | nil => rfl
            | cons c l ih =>
              by_cases hc : p c = true
              · simp [spanL, hc, ih]
              · simp [spanL, hc]
          exact this l notNl
        have hm : ∀ (p : UInt8 → Bool) (l : List UInt8), spanL p l = l.length → ∀ c ∈ l, p c = true := by
          intro p l
          induction l with
          | nil => intro _ c hc; simp at hc
          | cons d l ih =>
            intro h c hc
            by_cases hd : p d = true
            · simp [spanL, hd] at h
              rcases List.mem_cons.1 hc with rfl | hc
              · exact hd
              · exact ih h c hc
            · simp [spanL, hd] at h
        exact hm notNl _ hs c hc
      · obtain ⟨h3, h4⟩ := h2 x hx
        refine ⟨?_, h4⟩
        rw [List.length_drop] at h3; omega
theorem lineN_app (t r : List UInt8) (h : ∀ c ∈ t, notNl c = true) : lineN (t ++ 10 :: r) = t.length := by
  unfold lineN
  induction t with
  | nil => simp [spanL, notNl]
  | cons c t ih =>
    have hc := h c (by simp)
    have := ih (fun d hd => h d (by simp [hd]))
    simp [spanL, hc, this]
/-- Lines joined, cut again. -/
theorem linesG_join : ∀ (xs : List (List UInt8)) (f i : Nat), (∀ x ∈ xs, ∀ c ∈ x, notNl c = true) → (xs.flatMap (fun x => x ++ [10])).length ≤ f → (linesG f i (xs.flatMap (fun x => x ++ [10]))).map (·.2) = xs
  | [], f, i, _, _ => by simp [linesG_nil]
  | x :: xs, f, i, h, hf => by
    have e : (x :: xs).flatMap (fun x => x ++ [10]) = x ++ 10 :: xs.flatMap (fun x => x ++ [10]) := by simp
    rw [e] at hf ⊢
    have hln := lineN_app x (xs.flatMap (fun x => x ++ [10])) (h x (by simp))
    obtain ⟨f, rfl⟩ : ∃ g, f = g + 1 := ⟨f - 1, by simp at hf; omega⟩
    rw [linesG_cons (by simp), hln]
    have hd : (x ++ 10 :: xs.flatMap (fun x => x ++ [10])).drop (x.length + 1) = xs.flatMap (fun x => x ++ [10]) := by
      rw [show x.length + 1 = x.length + 1 from rfl, ← List.drop_drop, List.drop_left]; rfl
    rw [hd, List.take_left, List.map_cons, linesG_join xs f (i + 1) (fun y hy => h y (by simp [hy])) (by simp at hf ⊢; omega)]
theorem rdOf_lines (xs : List (Nat × List UInt8)) (i : Nat) (h : i < xs.length) : rdOf ByteArray.empty (xs.map fun x => mkS x.2) (i : Int) = mkS xs[i].2 := by
  unfold rdOf
  rw [Int.toNat_natCast, List.getD_eq_getElem?_getD, List.getElem?_map, List.getElem?_eq_getElem h]; rfl
theorem refLevel (k : Nat) (t : List UInt8) (h : t.length ≤ 1000000) : bulletinref15_Level.f k (mkS t) = some ((markN t : Int), mkS (restL t)) := by
  unfold bulletinref15_Level.f
  rw [if_pos (by rw [mkS_size]; omega), mkS_toList]
theorem refLevelE (t : List UInt8) (h : t.length ≤ 1000000) : Ev (fun k => bulletinref15_Level.f k (mkS t)) ((markN t : Int), mkS (restL t)) := ⟨0, fun k _ => refLevel k t h⟩

/-! ### Quote -/
theorem quoteL_short (t : List UInt8) : (quoteL t).length ≤ t.length + 2 := by
  unfold quoteL; split <;> simp
theorem nil_toList (t : List UInt8) : ((mkS t).toList == ([] : List UInt8)) = decide (t = []) := by
  have : (mkS t).toList = t := toList_mk t
  rw [this]
  cases t <;> simp
theorem quoteTail_cons (out : List UInt8) (x : Nat × List UInt8) (r : List (Nat × List UInt8)) : (out ++ (quoteL x.2 ++ [10])) ++ quoteAll r = out ++ quoteAll (x :: r) := by
  have : quoteAll (x :: r) = quoteL x.2 ++ [10] ++ quoteAll r := rfl
  rw [this]; simp
/-- What the quoting of the lines that are left answers. -/
def quoteT (out : List UInt8) (xs : List (Nat × List UInt8)) : ByteArray × Int := if xs.any longQ = true then (⟨#[]⟩, 5) else if 65536 < (out ++ quoteAll xs).length then (⟨#[]⟩, 5) else (mkS (out ++ quoteAll xs), 0)
theorem quoteT_cons (out : List UInt8) (x : Nat × List UInt8) (r : List (Nat × List UInt8)) : quoteT out (x :: r) = if longQ x = true then (⟨#[]⟩, 5) else quoteT (out ++ (quoteL x.2 ++ [10])) r := by
  unfold quoteT
  rw [quoteTail_cons, List.any_cons]
  cases longQ x
  · rw [Bool.false_or, if_neg (by decide : ¬ (false = true))]
  · rw [Bool.true_or, if_pos rfl, if_pos rfl]
theorem refQuoteL (xs : List (Nat × List UInt8)) (hn : xs.length ≤ 1000000) (hx : ∀ x ∈ xs, x.2.length ≤ 900000) : ∀ d i : Nat, xs.length - i = d → i ≤ xs.length → ∀ out : List UInt8, out.length ≤ 1000000 * i →
    Ev (fun k => bulletinref15_Quote.l0 k (mkS out) (xs.map fun x => mkS x.2) (i : Int)) (quoteT out (xs.drop i)) := by
  intro d
  induction d with
  | zero =>
    intro i hd hi out ho
    refine Ev.next ?_
    simp only [bulletinref15_Quote.l0, List.length_map, mkS_size]
    refine Ev.ite_neg (by omega) ?_
    rw [List.drop_eq_nil_of_le (by omega)]
    have e : quoteT out [] = if 65536 < out.length then (⟨#[]⟩, 5) else (mkS out, 0) := by simp [quoteT, quoteAll]
    rw [e]
    by_cases h : 65536 < out.length
    · rw [if_pos h]; exact Ev.ite_pos (by omega) (Ev.const rfl)
    · rw [if_neg h]; exact Ev.ite_neg (by omega) (Ev.const rfl)
  | succ d ih =>
    intro i hd hi out ho
    have hlt : i < xs.length := by omega
    have hsm := hx xs[i] (List.getElem_mem hlt)
    have hq := quoteL_short xs[i].2
    refine Ev.next ?_
    simp only [bulletinref15_Quote.l0, List.length_map]
    rw [rdOf_lines xs i hlt, List.drop_eq_getElem_cons hlt, quoteT_cons]
    have hs := mkS_size xs[i].2
    refine Ev.ite_pos (by omega) (Ev.ite_pos (by omega) (Ev.ite_pos (by omega) (Ev.bind (refLevelE _ (by omega)) ?_)))
    simp only []
    have e1 : (⟨#[62, 32]⟩ : ByteArray) ++ mkS xs[i].2 = mkS (62 :: 32 :: xs[i].2) := mkS_append [62, 32] xs[i].2
    have e2 : (⟨#[62]⟩ : ByteArray) ++ mkS xs[i].2 = mkS (62 :: xs[i].2) := mkS_append [62] xs[i].2
    have step : ∀ b : Bool, b = decide (xs[i].2 = [] ∨ 0 < markN xs[i].2) → Ev (fun k => bulletinref15_Quote.j1 k (mkS out) (xs.map fun x => mkS x.2) (i : Int) (mkS (62 :: 32 :: xs[i].2)) b) (if longQ xs[i] = true then (⟨#[]⟩, 5) else quoteT (out ++ (quoteL xs[i].2 ++ [10])) (xs.drop (i + 1))) := by
      intro b hb
      refine Ev.next ?_
      simp only [bulletinref15_Quote.j1, List.length_map]
      rw [rdOf_lines xs i hlt, e2]
      have e3 : ∀ t : List UInt8, mkS t ++ (⟨#[10]⟩ : ByteArray) = mkS (t ++ [10]) := fun t => mkS_append t [10]
      rw [e3, e3, mkS_append, mkS_append]
      simp only [mkS_size]
      rw [wrap_nat i (by omega)]
      by_cases hc : xs[i].2 = [] ∨ 0 < markN xs[i].2
      · have hqe : quoteL xs[i].2 = 62 :: xs[i].2 := by unfold quoteL; rw [if_pos hc]
        have hb1 : b = true := by rw [hb]; exact decide_eq_true hc
        have hlq : longQ xs[i] = decide (998 < (62 :: xs[i].2).length) := by unfold longQ; rw [hqe]
        rw [hqe] at hq ⊢
        rw [hlq]
        refine Ev.ite_pos hb1 (Ev.ite_pos (by omega) (Ev.ite_pos (by omega) (Ev.ite_pos (by omega) ?_)))
        by_cases h9 : 998 < (62 :: xs[i].2).length
        · rw [if_pos (decide_eq_true h9)]
          exact Ev.ite_pos (by omega) (Ev.const rfl)
        · rw [if_neg (by simpa using h9)]
          refine Ev.ite_neg (by omega) (Ev.ite_pos (by omega) (Ev.ite_pos (by simp; omega) ?_))
          exact ih (i + 1) (by omega) (by omega) _ (by simp at hq ⊢; omega)
      · have hqe : quoteL xs[i].2 = 62 :: 32 :: xs[i].2 := by unfold quoteL; rw [if_neg hc]
        have hb1 : ¬ b = true := by rw [hb]; simpa using hc
        have hlq : longQ xs[i] = decide (998 < (62 :: 32 :: xs[i].2).length) := by unfold longQ; rw [hqe]
        rw [hqe] at hq ⊢
        rw [hlq]
        refine Ev.ite_neg hb1 ?_
        by_cases h9 : 998 < (62 :: 32 :: xs[i].2).length
        · rw [if_pos (decide_eq_true h9)]
          exact Ev.ite_pos (by omega) (Ev.const rfl)
        · rw [if_neg (by simpa using h9)]
          refine Ev.ite_neg (by omega) (Ev.ite_pos (by omega) (Ev.ite_pos (by simp; omega) ?_))
          exact ih (i + 1) (by omega) (by omega) _ (by simp at hq ⊢; omega)
    rw [e1, nil_toList]
    by_cases hm : 0 < markN xs[i].2
    · exact Ev.ite_pos (by omega) (step true (by simp [hm]))
    · refine Ev.ite_neg (by omega) (step _ ?_)
      simp [hm]
theorem refQuoteF (l : List UInt8) (hl : l.length ≤ 900000) : Ev (fun k => bulletinref15_Quote.f k (mkS l)) (if (bodyU l).2 ≠ 0 then (⟨#[]⟩, (bodyU l).2) else quoteR (linesU l)) := by
  unfold bulletinref15_Quote.f
  refine Ev.bind (refBodyF l hl) ?_
  by_cases h : (bodyU l).2 = 0
  · rw [if_neg (by simpa using h)]
    have hs := linesG_small l.length 0 l
    refine Ev.ite_pos h (Ev.bind ⟨2 * l.length + 2, fun k hk => refLinesF l hl k (by omega)⟩ ?_)
    have := refQuoteL (linesU l) (Nat.le_trans hs.1 (by omega)) (fun x hx => Nat.le_trans (hs.2 x hx).1 hl) _ 0 rfl (by omega) [] (by simp)
    exact this
  · rw [if_pos h]
    exact Ev.ite_neg h (Ev.const rfl)
theorem quoteF (l : List UInt8) (hl : l.length ≤ 900000) : Ev (fun k => GV.Quote.f k (mkS l)) (if (bodyU l).2 ≠ 0 then (⟨#[]⟩, (bodyU l).2) else quoteR (linesU l)) := by
  unfold GV.Quote.f
  refine Ev.bind (checkBodyF l hl) ?_
  rw [mkS_toList, mkS_size]
  by_cases h : (bodyU l).2 = 0
  · exact Ev.rneg (by simpa using h) (Ev.ite_neg (by simpa using h) (Ev.ite_pos (by omega) (Ev.const rfl)))
  · exact Ev.rpos h (Ev.ite_pos h (Ev.const rfl))

/-! ### Strip -/
/-! ### levels -/
theorem markN_cons (c : UInt8) (t : List UInt8) : markN (c :: t) = if c = 62 then markN t + 1 else 0 := by
  unfold markN
  by_cases h : c = 62
  · rw [if_pos h]; simp [spanL, isMark, h]
  · rw [if_neg h]; simp [spanL, isMark, h]
theorem quote_level (t : List UInt8) : markN (quoteL t) = markN t + 1 ∧ restL (quoteL t) = restL t := by
  unfold quoteL
  by_cases h : t = [] ∨ 0 < markN t
  · rw [if_pos h]
    have hm := markN_cons 62 t
    rw [if_pos rfl] at hm
    refine ⟨hm, ?_⟩
    unfold restL
    rw [hm, if_neg (by omega), List.drop_succ_cons]
    rcases h with rfl | h
    · rfl
    · rw [if_neg (by omega : ¬ markN t = 0)]
  · rw [if_neg h]
    have h0 : markN t = 0 := by omega
    have hm := markN_cons 62 (32 :: t)
    have hm2 := markN_cons 32 t
    rw [if_pos rfl] at hm
    rw [if_neg (by decide)] at hm2
    rw [hm2] at hm
    refine ⟨by omega, ?_⟩
    unfold restL
    rw [hm, h0, if_neg (by omega)]
    simp
theorem quoteL_nl (t : List UInt8) (h : ∀ c ∈ t, notNl c = true) : ∀ c ∈ quoteL t, notNl c = true := by
  intro c hc
  unfold quoteL at hc
  split at hc
  · rcases List.mem_cons.1 hc with rfl | hc
    · decide
    · exact h c hc
  · rcases List.mem_cons.1 hc with rfl | hc
    · decide
    · rcases List.mem_cons.1 hc with rfl | hc
      · decide
      · exact h c hc
theorem quoteAll_flat (xs : List (Nat × List UInt8)) : quoteAll xs = (xs.map fun x => quoteL x.2).flatMap (fun x => x ++ [10]) := by
  unfold quoteAll
  rw [List.flatMap_map]
theorem quoteAll_lines (l : List UInt8) : (linesU (quoteAll (linesU l))).map (·.2) = (linesU l).map fun x => quoteL x.2 := by
  rw [quoteAll_flat]
  refine linesG_join _ _ 0 (fun x hx => ?_) (Nat.le_refl _)
  obtain ⟨y, hy, rfl⟩ := List.mem_map.1 hx
  exact quoteL_nl _ ((linesG_small l.length 0 l).2 y hy).2
end Go.Proofs.YtfeciafdioepiaaGreatDoor
set_option linter.unusedVariables false
set_option linter.unusedSimpArgs false
namespace Go.Proofs.YtfeciafdioepiaaGreatDoor
open Go.RowKit Go.Proofs Go.Proofs.YtfeciafdioepiaaGreatDoorW.PrintWords Go.Proofs.YtfeciafdioepiaaGreatDoorW.PrintMore Go.Proofs.YtfeciafdioepiaaGreatDoor.PA
theorem trim_mark (t : List UInt8) : Lib.trimLeftB t 62 = t.drop (markN t) := by
  unfold Lib.trimLeftB markN
  induction t with
  | nil => rfl
  | cons c t ih =>
    by_cases h : c = 62
    · subst h
      have e : spanL isMark (62 :: t) = spanL isMark t + 1 := by simp [spanL, isMark]
      rw [e, List.drop_succ_cons, ← ih]; simp
    · have e : spanL isMark (c :: t) = 0 := by simp [spanL, isMark, h]
      rw [e]; simp [h]
theorem markN_le (t : List UInt8) : markN t ≤ t.length := spanL_le _ _
theorem trimSpace (t : List UInt8) (h : t.length ≤ 1000000) : strings_TrimPrefix.f (mkS t) (⟨#[32]⟩ : ByteArray) = some (mkS (if t.head? = some 32 then t.drop 1 else t)) := by
  unfold strings_TrimPrefix.f stringslite_TrimPrefix.f stringslite_HasPrefix.f
  have e1 : (((⟨#[32]⟩ : ByteArray).size : Nat) : Int) = 1 := rfl
  simp only [e1, mkS_size]
  cases t with
  | nil =>
    rw [if_neg (by decide)]
    simp only [Option.bind_some]
    rw [if_neg (by decide)]
    rfl
  | cons c t =>
    have hlc : (c :: t).length = t.length + 1 := rfl
    rw [if_pos (by omega), if_pos (by omega), if_pos (by omega), if_pos (by omega), if_pos (by omega)]
    have e2 : (mkS (c :: t)).extract 0 (1 : Int).toNat = mkS [c] := by rw [extract_mk, mkS_toList]; rfl
    have e3 : (⟨#[32]⟩ : ByteArray).toList = [32] := toList_mk [32]
    rw [e2, toList_mk, e3]
    simp only [Option.bind_some]
    by_cases hc : c = 32
    · subst hc
      rw [if_pos (by decide), if_pos (show (32 :: t).head? = some 32 from rfl)]
      simp only [Option.bind_some]
      congr 1
      rw [extract_mk, mkS_toList, List.take_of_length_le]
      · rfl
      · rw [List.length_drop]; simp
    · rw [if_neg (by simpa using hc), if_neg (by simpa using hc)]
      rfl
theorem articleLevel (t : List UInt8) (h : t.length ≤ 1000000) : PC.article_Level.f (mkS t) = some ((markN t : Int), mkS (restL t)) := by
  unfold PC.article_Level.f GV.TrimLeft.f
  rw [if_pos rfl, mkS_toList, trim_mark]
  have hm := markN_le t
  simp only [Option.bind_some, mkS_size, List.length_drop]
  have hw : wrap64 ((t.length : Int) - ((t.length - markN t : Nat) : Int)) = (markN t : Int) := by
    rw [show ((t.length : Int) - ((t.length - markN t : Nat) : Int)) = (markN t : Int) by omega, wrap64_small (by omega) (by omega)]
  rw [hw, trimSpace _ (by rw [List.length_drop]; omega)]
  unfold restL
  by_cases h0 : markN t = 0
  · rw [if_neg (by omega), if_pos h0]
  · rw [if_pos (by omega), if_neg h0]
    rfl
theorem Quotes_loop (us bs : List (List UInt8)) (hb : bs = us.map quoteL) (hn : us.length ≤ 900000) (hx : ∀ x ∈ us, x.length ≤ 900000) : ∀ d i : Nat, us.length - i = d → i ≤ us.length →
    Ev (fun k => PL.bulletinlaw15_ArticleQuotes.l0 k 0 (us.map mkS) (bs.map mkS) (i : Int)) true := by
  subst hb
  have hr : ∀ (xs : List (List UInt8)) (i : Nat) (h : i < xs.length), rdOf ByteArray.empty (xs.map mkS) (i : Int) = mkS xs[i] := by
    intro xs i h
    unfold rdOf
    rw [Int.toNat_natCast, List.getD_eq_getElem?_getD, List.getElem?_map, List.getElem?_eq_getElem h]; rfl
  intro d
  induction d with
  | zero =>
    intro i hd hi
    refine Ev.next ?_
    simp only [PL.bulletinlaw15_ArticleQuotes.l0, List.length_map]
    refine Ev.ite_neg (by omega) (Ev.next ?_)
    simp only [PL.bulletinlaw15_ArticleQuotes.j2, List.length_map]
    exact Ev.ite_neg (by simp) (Ev.const rfl)
  | succ d ih =>
    intro i hd hi
    have hlt : i < us.length := by omega
    have hsm := hx us[i] (List.getElem_mem hlt)
    have hq := quoteL_short us[i]
    obtain ⟨q1, q2⟩ := quote_level us[i]
    have hm := markN_le us[i]
    refine Ev.next ?_
    simp only [PL.bulletinlaw15_ArticleQuotes.l0, List.length_map]
    refine Ev.ite_pos (by omega) (Ev.next ?_)
    simp only [PL.bulletinlaw15_ArticleQuotes.j2, List.length_map]
    rw [hr us i hlt, hr (us.map quoteL) i (by rw [List.length_map]; exact hlt), List.getElem_map, articleLevel _ (by omega), articleLevel _ (by omega), q1, q2, wrap_nat i (by omega)]
    simp only [Option.bind_some]
    rw [wrap_nat (markN us[i]) (by omega)]
    refine Ev.ite_pos rfl (Ev.ite_pos (by omega) (Ev.ite_pos (by omega) (Ev.ite_pos (by omega) (Ev.ite_pos (by simp) (Ev.ite_pos (by simp) ?_)))))
    exact ih (i + 1) (by omega) (by omega)
theorem Quotes_pure : PL.bulletinlaw15_ArticleQuotes.Pure := by
  intro a ha
  obtain ⟨l, rfl⟩ : ∃ l, a = mkS l := ⟨a.data.toList, (mkS_data a).symm⟩
  refine Ev.at_ ?_
  unfold PL.bulletinlaw15_ArticleQuotes.f
  have hs := shortF l 3000 (by omega)
  rw [show ((3000 : Nat) : Int) = 3000 from rfl] at hs
  rw [hs]
  have hlen : (l.take 3000).length ≤ 3000 := by rw [List.length_take]; omega
  generalize l.take 3000 = t at *
  simp only [Option.bind_some]
  refine Ev.bind (quoteF t (by omega)) (Ev.bind (refQuoteF t (by omega)) (Ev.bind (a := true) (Ev.const rfl) (Ev.ite_pos rfl (Ev.ite_pos rfl ?_))))
  refine Ev.next ?_
  simp only [PL.bulletinlaw15_ArticleQuotes.j0]
  refine Ev.ite_neg (by simp) ?_
  have hlinesE : ∀ u : List UInt8, u.length ≤ 900000 → Ev (fun k => bulletinref15_Lines.f k (mkS u)) (((linesU u).map (·.2)).map mkS) := by
    intro u hu
    have e : ((linesU u).map (·.2)).map mkS = (linesU u).map fun x => mkS x.2 := by rw [List.map_map]; rfl
    rw [e]
    exact ⟨2 * u.length + 2, fun k hk => refLinesF u hu k (by omega)⟩
  have hsmall := linesG_small t.length 0 t
  have bad : ∀ (c : Int) (u : List UInt8), c ≠ 0 → u.length ≤ 900000 → Ev (fun k => (bulletinref15_Lines.f k (mkS t)).bind fun t140 => ((bulletinref15_Lines.f k (mkS u)).bind fun t143 => (PL.bulletinlaw15_ArticleQuotes.l0 k c t140 t143 0))) true := by
    intro c u hc hu
    refine Ev.bind (hlinesE t (by omega)) (Ev.bind (hlinesE u hu) ?_)
    refine Ev.next ?_
    simp only [PL.bulletinlaw15_ArticleQuotes.l0]
    have hcf : (c == 0) = false := by simpa using hc
    rw [hcf]
    have hj : Ev (fun k => PL.bulletinlaw15_ArticleQuotes.j2 k c (((linesU t).map (·.2)).map mkS) (((linesU u).map (·.2)).map mkS) 0 false) true := by
      refine Ev.next ?_
      simp only [PL.bulletinlaw15_ArticleQuotes.j2]
      exact Ev.ite_neg (by simp) (Ev.const rfl)
    by_cases h0 : (0 : Int) < ((((linesU t).map (·.2)).map mkS).length : Int)
    · exact Ev.ite_pos h0 hj
    · exact Ev.ite_neg h0 hj
  by_cases hb : (bodyU t).2 = 0
  · rw [if_neg (by simpa using hb)]
    unfold quoteR
    by_cases h1 : (linesU t).any longQ = true
    · rw [if_pos h1]; exact bad 5 [] (by decide) (by simp)
    · rw [if_neg h1]
      by_cases h2 : 65536 < (quoteAll (linesU t)).length
      · rw [if_pos h2]; exact bad 5 [] (by decide) (by simp)
      · rw [if_neg h2]
        refine Ev.bind (hlinesE t (by omega)) (Ev.bind (hlinesE _ (by show (quoteAll (linesU t)).length ≤ 900000; omega)) ?_)
        refine Quotes_loop ((linesU t).map (·.2)) _ ?_ ?_ ?_ _ 0 rfl (by omega)
        · rw [quoteAll_lines, List.map_map]; rfl
        · rw [List.length_map]; exact Nat.le_trans hsmall.1 (by omega)
        · intro x hx
          obtain ⟨y, hy, rfl⟩ := List.mem_map.1 hx
          exact Nat.le_trans (hsmall.2 y hy).1 (by omega)
  · rw [if_pos hb]; exact bad _ [] hb (by simp)
end Go.Proofs.YtfeciafdioepiaaGreatDoor
namespace Go.Proofs.YtfeciafdioepiaaGreatDoor.Pure
theorem ArticleQuotes : Go.Proofs.YtfeciafdioepiaaGreatDoor.PL.bulletinlaw15_ArticleQuotes.Pure := Go.Proofs.YtfeciafdioepiaaGreatDoor.Quotes_pure
end Go.Proofs.YtfeciafdioepiaaGreatDoor.Pure
namespace Go.Proofs.YtfeciafdioepiaaGreatDoor.articleQuotes
open Go.ChangeShapes Go.WideShapes Go.ChangeAt Go.RowKit
open Go.ChangeMaps (open_string shut_string)
set_option linter.unusedVariables false
theorem own : ownKnob Tryz.prog.godebug = none := by kernel_rfl
set_option maxRecDepth 100000 in
theorem lifted (os : Os) (started : os.Started) (H : Type) (enc : TypeId × Value → H) :
    ReturnsInHanded {} Tryz.checked os 6 .any (fun w args => (Rows.articleQuotesSpec.pre enc Tryz.prog Tryz.f6 Rows.articleQuotesRow.domain false w args ∧ laidMetH Tryz.prog Rows.articleQuotesRow.laid w) ∧ sizedMet enc Tryz.prog Tryz.f6 (OpenSpec.ofChange Rows.articleQuotesSpec) false w args) (Rows.articleQuotesSpec.post enc Tryz.prog Tryz.f6 false true false false) := by
  refine handed_laid own started (by kernel_rfl) Tryz.func6
    (ChangeSpec.witness_shaped (enc := enc) (C := Tryz.checked) (os := os) (X := fun w _ => laidMetH Tryz.prog Rows.articleQuotesRow.laid w) false (World.laidAll Tryz.prog os Rows.articleQuotesRow.laid) #[.string ByteArray.empty] 8 (World.laidAll_os _ _ _)
      (World.shaped_of_ZipB (by kernel_rfl) (by kernel_rfl)) (by kernel_rfl) (by kernel_rfl) (by kernel_rfl)
      (by rw [MakeChecks.laidMetH_plain _ _ _ (by kernel_rfl)]; exact laidMet_laidAll _ (by kernel_rfl) (by kernel_rfl))) ?_
  intro W base args ds gs before hval0 hW hcnd hsz0 hL hsh _
  have hsz : (DataW.weightsEach Tryz.prog (Tryz.f6.params.toList ++ Rows.articleQuotesSpec.plain.varTypes Tryz.prog) (ds ++ gs)).all (· ≤ reachBytes) = true := hsz0
  have hval : ∀ (j : Nat) t v, Tryz.f6.params[j]? = some t → args[j]? = some v → Value.okWide Tryz.prog W .any base t v := hval0
  have hW' := hW
  obtain ⟨p, q, hA0, hV, rfl, hfz, hnd⟩ := hW
  have hA : DataW.TrodAll enc Tryz.prog W 0 (fun _ => true) true Tryz.f6.params.toList args.toList ds p := hA0
  rw [Tryz.params6] at hA hval hsz
  obtain ⟨v0, vs0, d0, ds0, p0, q0, hargs, rfl, rfl, h0, r0⟩ := trodAll_cons hA
  obtain ⟨rfl, rfl, rfl⟩ := trodAll_nil r0
  obtain rfl : args = #[v0] := by cases args; simp_all
  obtain ⟨rfl, rfl⟩ := trodVars_none hV
  obtain ⟨a0, rfl, rfl, rfl, y0⟩ := open_string Tryz.underlying9 (hval 0 9 v0 rfl rfl) h0
  have w0 : a0.size ≤ 140737488351232 := by
    have z := sized_string hsz (j := 0) (t := 9) rfl rfl
    rw [Array.length_toList] at z
    exact z
  clear hA0 hval0 hsz0 hsz
  refine (PL.bulletinlaw15_ArticleQuotes.walk Pure.ArticleQuotes a0 W (Tryz.laysM143.s1_3 W hsh) w0).mono fun e W' ⟨he, bel⟩ => ?_
  subst he
  exact ⟨_, rfl, _, _, _, [], _, [], hW', trodAll_mk1 (shut_bool Tryz.underlying4 _), (trodAll_cons_mk (shut_string Tryz.underlying9 y0) trodAll_mk0), rfl, bel.frame _, fun h => by cases h⟩
theorem over : Rows.articleQuotesRow.holds Tryz.pinned (OpenSpec.ofChange Rows.articleQuotesSpec) :=
  OpenClaim.holds_of_wide 6 Tryz.f6 rfl rfl rfl rfl rfl rfl rfl ⟨rfl, rfl, rfl, rfl, rfl⟩ rfl rfl rfl rfl rfl (by kernel_rfl) Tryz.func6 (by kernel_rfl)
    (of_decide_eq_true (by kernel_rfl)) (by unfold Func.isWrapper; first | (rw [if_pos (by decide +kernel)]; kernel_rfl) | (rw [if_neg (by decide +kernel)]; exact ⟨rfl, rfl⟩))
    (fun os started H enc _ => lifted os started H enc)
theorem row_holds : Rows.ArticleQuotesSaid := over
theorem card_holds : Rows.ArticleQuotesCardSaid :=
  Claim7.holds_tied_plain_at .later [] [.data, .pinned] true (true, "0ed969f1a3953f9b426fc905d95e5da96efd084e39c94fceb3821d79c3635a2d") false row_holds (fun _ h => by cases h) (by kernel_rfl) (fun _ h => by cases h) articleQuotes_row_tie rfl ⟨rfl, rfl⟩ (by kernel_rfl) rfl
    (fun f fn hf hfn => by
      obtain rfl : f = 6 := Option.some.inj ((show Tryz.prog.funcNamed "bulletin/bulletinlaw15.ArticleQuotes" = some 6 by kernel_rfl).symm.trans hf) |>.symm
      obtain rfl : fn = Tryz.f6 := (Option.some.inj (Tryz.func6.symm.trans hfn)).symm
      exact ⟨by kernel_rfl, fun j t ht => by
        rw [Tryz.params6] at ht
        have hm : t ∈ [9] := by simpa using Array.mem_of_getElem? ht
        have hall : ([9].all fun u => !Tryz.prog.wantsStandIn u) = true := by kernel_rfl
        exact (show Tryz.prog.wantsStandIn t = false by simpa using List.all_eq_true.1 hall t hm)⟩)
    (by kernel_rfl)
#print axioms card_holds
end Go.Proofs.YtfeciafdioepiaaGreatDoor.articleQuotes
namespace Go.Proofs.YtfeciafdioepiaaGreatDoor
/-- The card, under a short name, for the claim. -/
theorem articleQuotes_holds : Rows.ArticleQuotesCardSaid := articleQuotes.card_holds
end Go.Proofs.YtfeciafdioepiaaGreatDoor
