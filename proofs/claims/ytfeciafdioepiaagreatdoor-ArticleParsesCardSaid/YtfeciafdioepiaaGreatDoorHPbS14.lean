/- The row of ArticleParses over the listed tables, and its tied card. -/
import Derived.Test.YtfeciafdioepiaaGreatDoorHPbS13
import Derived.Test.YtfeciafdioepiaaGreatDoorHPbS10
import Derived.Test.YtfeciafdioepiaaGreatDoorHPbS8
import Derived.Test.YtfeciafdioepiaaGreatDoorHPbS2
import Derived.Test.YtfeciafdioepiaaGreatDoorHPbS5
import Derived.Test.YtfeciafdioepiaaGreatDoorHPbS6
import Derived.Lib.IndexMore
import Derived.Test.YtfeciafdioepiaaGreatDoorHPbS12
import Derived.Test.YtfeciafdioepiaaGreatDoorRows
import Derived.Test.YtfeciafdioepiaaGreatDoorCards
import Derived.Test.YtfeciafdioepiaaGreatDoorTie
import Derived.WalkKit
import Derived.ProofKit
import Derived.OpenShut
import Derived.ShutString
import Derived.ChangeOld
import Derived.Below
import Derived.SizedLaws
import Derived.HandedShaped
set_option linter.unusedVariables false
set_option linter.unusedSimpArgs false
namespace Go.Proofs.YtfeciafdioepiaaGreatDoor
open Go.RowKit Go.Proofs Go.Proofs.YtfeciafdioepiaaGreatDoorW.PrintWords Go.Proofs.YtfeciafdioepiaaGreatDoorW.PrintMore Go.Proofs.YtfeciafdioepiaaGreatDoor.PA

/-- What a body's check answers, from a line's offset on; f: more than enough rounds. -/
def bodyG : Nat → Nat → List UInt8 → Int × Int
  | 0, _, _ => (0, 0)
  | f + 1, i, l => if l = [] then (0, 0) else if lineN l = l.length then (((i + l.length : Nat) : Int), 4)
    else if 998 < lineN l then (((i + 998 : Nat) : Int), 5)
    else if 0 ≤ badU (l.take (lineN l)) then ((i : Int) + badU (l.take (lineN l)), 6)
    else bodyG f (i + (lineN l + 1)) (l.drop (lineN l + 1))
def bodyU (l : List UInt8) : Int × Int := bodyG l.length 0 l
theorem bodyG_nil (f i : Nat) : bodyG f i [] = (0, 0) := by cases f <;> simp [bodyG]
theorem runesG_off (f : Nat) : ∀ k l, (∀ x ∈ (runesG f k l).1, x.1 ≤ k + l.length) ∧ ∀ p, (runesG f k l).2 = some p → p ≤ k + l.length := by
  induction f with
  | zero => intro k l; simp [runesG]
  | succ f ih =>
    intro k l
    by_cases h0 : l = []
    · subst h0; rw [runesG_nil]; simp
    · cases hd : decR l with
      | none =>
        rw [runesG_none h0 hd]
        refine ⟨by simp, fun p hp => ?_⟩
        injection hp with hp; omega
      | some q =>
        obtain ⟨v, n⟩ := q
        rw [runesG_some hd]
        obtain ⟨h1, h2⟩ := ih (k + n) (l.drop n)
        have hn := (decR_pos hd).2.1
        rw [List.length_drop] at h1 h2
        refine ⟨fun x hx => ?_, fun p hp => ?_⟩
        · rcases List.mem_cons.1 hx with rfl | hx
          · simp only []; omega
          · have := h1 x hx; omega
        · have := h2 p hp; omega
theorem badU_le (l : List UInt8) : -1 ≤ badU l ∧ badU l ≤ (l.length : Int) := by
  obtain ⟨h1, h2⟩ := runesG_off l.length 0 l
  have hr : runesG l.length 0 l = runesU l := rfl
  rw [hr] at h1 h2
  unfold badU
  cases hf : (runesU l).1.find? (fun x => badV x.2) with
  | some x =>
    have := h1 x (List.mem_of_find?_eq_some hf)
    simp only []; omega
  | none =>
    cases he : (runesU l).2 with
    | none => simp only []; omega
    | some q => have := h2 q he; simp only []; omega
theorem drop_ne {l : List UInt8} {i : Nat} (h : i < l.length) : l.drop i ≠ [] := by
  intro h1
  have := congrArg List.length h1
  rw [List.length_drop] at this
  simp at this; omega
theorem checkBody_loop (l : List UInt8) (hl : l.length ≤ 900000) : ∀ f i : Nat, l.length - i ≤ f → i ≤ l.length → Ev (fun k => PC.article_CheckBody.l0 k (mkS l) (i : Int)) (bodyG f i (l.drop i)) := by
  intro f
  induction f with
  | zero =>
    intro i hf hi
    refine Ev.next ?_
    simp only [PC.article_CheckBody.l0, mkS_size]
    exact Ev.ite_neg (by omega) (Ev.const rfl)
  | succ f ih =>
    intro i hf hi
    by_cases hlt : i < l.length
    · have hne := drop_ne hlt
      have e1 : (mkS l).extract ((i : Int)).toNat l.length = mkS (l.drop i) := by
        rw [Int.toNat_natCast, extract_mk, mkS_toList, List.take_of_length_le]; rw [List.length_drop]; omega
      have hld : (l.drop i).length = l.length - i := List.length_drop ..
      have hln := lineN_le (l.drop i)
      have hcut : GV.Cut.f (mkS (l.drop i)) ⟨#[10]⟩ = some (mkS ((l.drop i).take (lineN (l.drop i))), mkS ((l.drop i).drop (lineN (l.drop i) + 1)), hasNl (l.drop i)) := by
        unfold GV.Cut.f
        rw [if_pos ⟨rfl, by rw [mkS_size]; omega⟩, mkS_toList]
      refine Ev.next ?_
      simp only [PC.article_CheckBody.l0, mkS_size]
      rw [e1, hcut]
      refine Ev.ite_pos (by omega) (Ev.ite_pos (by omega) (Ev.ite_pos (by omega) ?_))
      simp only [Option.bind_some, mkS_size]
      unfold bodyG
      rw [if_neg hne]
      have htk : ((l.drop i).take (lineN (l.drop i))).length = lineN (l.drop i) := by rw [List.length_take]; omega
      rw [htk]
      by_cases h1 : lineN (l.drop i) = (l.drop i).length
      · rw [if_pos h1]
        refine Ev.ite_neg (by unfold hasNl; simp; omega) (Ev.const ?_)
        rw [show i + (l.drop i).length = l.length by omega]
      · rw [if_neg h1]
        refine Ev.ite_pos (by unfold hasNl; simp; omega) ?_
        by_cases h2 : 998 < lineN (l.drop i)
        · rw [if_pos h2]
          refine Ev.ite_pos (by omega) (Ev.const ?_)
          rw [show (998 : Int) = ((998 : Nat) : Int) from rfl, wrap_add i 998 (by omega)]
        · rw [if_neg h2]
          refine Ev.ite_neg (by omega) ?_
          have hbad : GV.badByte.f (mkS ((l.drop i).take (lineN (l.drop i)))) = some (badU ((l.drop i).take (lineN (l.drop i)))) := by
            unfold GV.badByte.f
            rw [if_pos (by rw [mkS_size]; omega), mkS_toList]
          rw [hbad]
          simp only [Option.bind_some]
          have hb := badU_le ((l.drop i).take (lineN (l.drop i)))
          rw [htk] at hb
          by_cases h3 : 0 ≤ badU ((l.drop i).take (lineN (l.drop i)))
          · rw [if_pos h3]
            refine Ev.ite_pos h3 (Ev.const ?_)
            rw [wrap64_small (by omega) (by omega)]
          · rw [if_neg h3]
            refine Ev.ite_neg h3 ?_
            have hw : wrap64 ((i : Int) + wrap64 ((lineN (l.drop i) : Int) + 1)) = ((i + (lineN (l.drop i) + 1) : Nat) : Int) := by
              rw [wrap_nat _ (by omega), wrap_add _ _ (by omega)]
            rw [hw, List.drop_drop]
            exact ih _ (by omega) (by omega)
    · rw [List.drop_eq_nil_of_le (by omega), bodyG_nil]
      refine Ev.next ?_
      simp only [PC.article_CheckBody.l0, mkS_size]
      exact Ev.ite_neg (by omega) (Ev.const rfl)
theorem checkBodyF (l : List UInt8) (hl : l.length ≤ 900000) : Ev (fun k => PC.article_CheckBody.f k (mkS l)) (bodyU l) := by
  have := checkBody_loop l hl l.length 0 (by omega) (by omega)
  rw [List.drop_zero] at this
  exact this
theorem refEndE (l : List UInt8) (hl : l.length ≤ 1000000) (i : Nat) (hi : i ≤ l.length) : Ev (fun k => bulletinref15_end.f k (mkS l) (i : Int)) ((i + lineN (l.drop i) : Nat) : Int) :=
  ⟨l.length - i + 1, fun k hk => endF l hl k i (by omega) hi⟩
theorem refBody_loop (l : List UInt8) (hl : l.length ≤ 900000) : ∀ f i : Nat, l.length - i ≤ f → i ≤ l.length → Ev (fun k => bulletinref15_Body.l0 k (mkS l) (i : Int)) (bodyG f i (l.drop i)) := by
  intro f
  induction f with
  | zero =>
    intro i hf hi
    refine Ev.next ?_
    simp only [bulletinref15_Body.l0, mkS_size]
    exact Ev.ite_neg (by omega) (Ev.const rfl)
  | succ f ih =>
    intro i hf hi
    by_cases hlt : i < l.length
    · have hne := drop_ne hlt
      have hld : (l.drop i).length = l.length - i := List.length_drop ..
      have hln := lineN_le (l.drop i)
      have e1 : (mkS l).extract ((i : Int)).toNat (((i + lineN (l.drop i) : Nat) : Int)).toNat = mkS ((l.drop i).take (lineN (l.drop i))) := by
        rw [Int.toNat_natCast, Int.toNat_natCast]; exact extract_line l i
      refine Ev.next ?_
      simp only [bulletinref15_Body.l0, mkS_size]
      refine Ev.ite_pos (by omega) (Ev.bind (refEndE l (by omega) i hi) ?_)
      unfold bodyG
      rw [if_neg hne]
      have htk : ((l.drop i).take (lineN (l.drop i))).length = lineN (l.drop i) := by rw [List.length_take]; omega
      by_cases h1 : lineN (l.drop i) = (l.drop i).length
      · rw [if_pos h1]
        refine Ev.ite_pos (by omega) (Ev.const ?_)
        rw [show i + (l.drop i).length = l.length by omega]
      · rw [if_neg h1]
        refine Ev.ite_neg (by omega) ?_
        have hw1 : wrap64 (((i + lineN (l.drop i) : Nat) : Int) - (i : Int)) = (lineN (l.drop i) : Int) := by
          rw [show ((i + lineN (l.drop i) : Nat) : Int) - (i : Int) = (lineN (l.drop i) : Int) by omega, wrap64_small (by omega) (by omega)]
        rw [hw1]
        by_cases h2 : 998 < lineN (l.drop i)
        · rw [if_pos h2]
          refine Ev.ite_pos (by omega) (Ev.const ?_)
          rw [show (998 : Int) = ((998 : Nat) : Int) from rfl, wrap_add i 998 (by omega)]
        · rw [if_neg h2]
          refine Ev.ite_neg (by omega) (Ev.ite_pos (by omega) (Ev.ite_pos (by omega) (Ev.ite_pos (by omega) ?_)))
          rw [e1]
          refine Ev.bind (refBadF _ (by omega)) ?_
          have hb := badU_le ((l.drop i).take (lineN (l.drop i)))
          rw [htk] at hb
          by_cases h3 : 0 ≤ badU ((l.drop i).take (lineN (l.drop i)))
          · rw [if_pos h3]
            refine Ev.ite_pos h3 (Ev.const ?_)
            rw [wrap64_small (by omega) (by omega)]
          · rw [if_neg h3]
            refine Ev.ite_neg h3 ?_
            rw [wrap_nat _ (by omega), List.drop_drop]
            exact ih _ (by omega) (by omega)
    · rw [List.drop_eq_nil_of_le (by omega), bodyG_nil]
      refine Ev.next ?_
      simp only [bulletinref15_Body.l0, mkS_size]
      exact Ev.ite_neg (by omega) (Ev.const rfl)
theorem refBodyF (l : List UInt8) (hl : l.length ≤ 900000) : Ev (fun k => bulletinref15_Body.f k (mkS l)) (bodyU l) := by
  have := refBody_loop l hl l.length 0 (by omega) (by omega)
  rw [List.drop_zero] at this
  exact this
theorem bodyG_le (f : Nat) : ∀ i l, 0 ≤ (bodyG f i l).1 ∧ (bodyG f i l).1 ≤ ((i + l.length : Nat) : Int) := by
  induction f with
  | zero => intro i l; simp [bodyG]; omega
  | succ f ih =>
    intro i l
    have hln := lineN_le l
    unfold bodyG
    split
    · simp; omega
    · split
      · simp only []; omega
      · split
        · simp only []; omega
        · have hb := badU_le (l.take (lineN l))
          have htk : (l.take (lineN l)).length = lineN l := by rw [List.length_take]; omega
          rw [htk] at hb
          split
          · simp only []; omega
          · have := ih (i + (lineN l + 1)) (l.drop (lineN l + 1))
            rw [List.length_drop] at this
            refine ⟨this.1, Int.le_trans this.2 ?_⟩
            omega
theorem bodyU_le (l : List UInt8) : 0 ≤ (bodyU l).1 ∧ (bodyU l).1 ≤ (l.length : Int) := by
  have := bodyG_le l.length 0 l
  rw [Nat.zero_add] at this
  exact this
/-- A text that is cut. -/
theorem shortF (l : List UInt8) (n : Nat) (hn : n ≤ 1000000) : bulletinlaw15_short.f (mkS l) (n : Int) = some (mkS (l.take n)) := by
  unfold bulletinlaw15_short.f
  rw [mkS_size, mn_nat l.length n, if_pos (by omega), if_pos (by omega), Int.toNat_natCast, extract_mk, mkS_toList, List.drop_zero, Nat.sub_zero]
  congr 2
  rw [Nat.min_comm, ← List.take_take, List.take_length]
end Go.Proofs.YtfeciafdioepiaaGreatDoor
set_option linter.unusedVariables false
set_option linter.unusedSimpArgs false
namespace Go.Proofs.YtfeciafdioepiaaGreatDoor
open Go.RowKit Go.Proofs Go.Proofs.YtfeciafdioepiaaGreatDoorW.PrintWords Go.Proofs.YtfeciafdioepiaaGreatDoorW.PrintMore Go.Proofs.YtfeciafdioepiaaGreatDoor.PA

/-! ### the header -/
def headL (l : List UInt8) : List UInt8 × Bool :=
  if Lib.hasPrefix l [10] = true then ([], true)
  else if 0 ≤ Lib.index l [10, 10] then (l.take (Lib.index l [10, 10] + 1).toNat, true)
  else (l, false)
theorem headA_mk (l : List UInt8) : headA (mkS l) = (mkS (headL l).1, (headL l).2) := by
  unfold headA headL
  rw [mkS_toList]
  split
  · rfl
  · split
    · rw [extract_mk, mkS_toList, List.drop_zero, Nat.sub_zero]
    · rfl
theorem occ2 (l : List UInt8) (j : Nat) : Lib.occAt l [10, 10] j = true ↔ (l[j]? = some 10 ∧ l[j + 1]? = some 10) := by
  unfold Lib.occAt
  have e0 : l[j]? = (l.drop j)[0]? := by rw [List.getElem?_drop]; rfl
  have e1 : l[j + 1]? = (l.drop j)[1]? := by rw [List.getElem?_drop]
  rw [e0, e1]
  generalize l.drop j = t
  match t with
  | [] => simp [List.isPrefixOf]
  | [a] => simp [List.isPrefixOf]
  | a :: b :: r =>
    simp [List.isPrefixOf]
    constructor
    · rintro ⟨rfl, rfl⟩; exact ⟨rfl, rfl⟩
    · rintro ⟨rfl, rfl⟩; exact ⟨rfl, rfl⟩
theorem pref10 (l : List UInt8) : Lib.hasPrefix l [10] = true ↔ l[0]? = some 10 := by
  unfold Lib.hasPrefix
  cases l with
  | nil => simp [List.isPrefixOf]
  | cons a r =>
    simp [List.isPrefixOf]
    constructor
    · rintro rfl; rfl
    · rintro rfl; rfl
/-- What is known at the beginning of a line when no empty line came up. -/
structure HInv (l : List UInt8) (i : Nat) : Prop where
  no : ∀ j, j + 1 < i → ¬ (l[j]? = some 10 ∧ l[j + 1]? = some 10)
  first : 0 < i → l[0]? ≠ some 10
  at_ : 0 < i → i ≤ l.length → l[i - 1]? = some 10
theorem head_found {l : List UInt8} {i : Nat} (h : HInv l i) (hi : l[i]? = some 10) : headL l = (l.take i, true) := by
  have hlt : i < l.length := (List.getElem?_eq_some_iff.1 hi).1
  unfold headL
  by_cases h0 : i = 0
  · subst h0
    rw [if_pos ((pref10 l).2 hi)]; rfl
  · have hp := h.first (by omega)
    rw [if_neg (fun x => hp ((pref10 l).1 x))]
    have hx : Lib.index l [10, 10] = ((i - 1 : Nat) : Int) := by
      refine Lib.index_hit (fun j hj => ?_) (by omega) ((occ2 l (i - 1)).2 ⟨h.at_ (by omega) (by omega), by rw [show i - 1 + 1 = i by omega]; exact hi⟩)
      have := h.no j (by omega)
      cases ho : Lib.occAt l [10, 10] j with
      | false => rfl
      | true => exact absurd ((occ2 l j).1 ho) this
    rw [hx, if_pos (by omega)]
    rw [show (((i - 1 : Nat) : Int) + 1).toNat = i by omega]
theorem head_none {l : List UInt8} (h1 : ∀ j : Nat, ¬ (l[j]? = some 10 ∧ l[j + 1]? = some 10)) (h2 : l[0]? ≠ some 10) : headL l = (l, false) := by
  unfold headL
  rw [if_neg (fun x => h2 ((pref10 l).1 x))]
  rcases Lib.index_spec l [10, 10] with ⟨h3, _⟩ | ⟨i, h3, h4, h5, _⟩
  · rw [h3, if_neg (by decide)]
  · exact absurd ((occ2 l i).1 h5) (h1 i)
theorem spanL_pre (p : UInt8 → Bool) (l : List UInt8) (j : Nat) (h : j < spanL p l) (hj : j < l.length) : p l[j] = true := by
  induction l generalizing j with
  | nil => simp at hj
  | cons d l ih =>
    by_cases hd : p d = true
    · have e : spanL p (d :: l) = spanL p l + 1 := by simp [spanL, hd]
      cases j with
      | zero => exact hd
      | succ j =>
        rw [List.getElem_cons_succ]
        exact ih j (by omega) (by simpa using hj)
    · have e : spanL p (d :: l) = 0 := by simp [spanL, hd]
      omega
theorem spanL_atN (p : UInt8 → Bool) (l : List UInt8) (h : spanL p l < l.length) : p l[spanL p l] = false := by
  induction l with
  | nil => simp at h
  | cons d l ih =>
    by_cases hd : p d = true
    · have e : spanL p (d :: l) = spanL p l + 1 := by simp [spanL, hd]
      simp only [e, List.getElem_cons_succ]
      exact ih (by rw [e] at h; simpa using h)
    · have e : spanL p (d :: l) = 0 := by simp [spanL, hd]
      simp only [e, List.getElem_cons_zero]
      simpa using hd
theorem line_not (l : List UInt8) (i j : Nat) (h1 : i ≤ j) (h2 : j < i + lineN (l.drop i)) : l[j]? ≠ some 10 := by
  intro h
  obtain ⟨hlt, he⟩ := List.getElem?_eq_some_iff.1 h
  have := spanL_pre notNl (l.drop i) (j - i) (by unfold lineN at h2; omega) (by rw [List.length_drop]; omega)
  rw [List.getElem_drop] at this
  have e : l[i + (j - i)]'(by omega) = l[j] := by congr 1; omega
  rw [e, he] at this
  exact absurd this (by decide)
theorem line_at (l : List UInt8) (i : Nat) (h : i + lineN (l.drop i) < l.length) : l[i + lineN (l.drop i)]? = some 10 := by
  have := spanL_atN notNl (l.drop i) (by unfold lineN at h; rw [List.length_drop]; omega)
  rw [List.getElem_drop] at this
  rw [List.getElem?_eq_getElem h]
  have h' : notNl (l[i + lineN (l.drop i)]'h) = false := this
  unfold notNl at h'
  simpa using h'
theorem inv_next {l : List UInt8} {i : Nat} (h : HInv l i) (hi : i < l.length) (hn : l[i]? ≠ some 10) : HInv l (i + lineN (l.drop i) + 1) := by
  refine ⟨fun j hj => ?_, fun _ => ?_, fun _ hle => ?_⟩
  · rintro ⟨h1, h2⟩
    by_cases hc : j + 1 < i
    · exact h.no j hc ⟨h1, h2⟩
    · by_cases hd : j + 1 = i
      · rw [hd] at h2; exact hn h2
      · exact line_not l i j (by omega) (by omega) h1
  · by_cases h0 : i = 0
    · subst h0; exact hn
    · exact h.first (by omega)
  · rw [Nat.add_sub_cancel]
    exact line_at l i (by omega)
theorem inv_end {l : List UInt8} {i : Nat} (h : HInv l i) (hi : l.length ≤ i) : headL l = (l, false) := by
  refine head_none (fun j => ?_) ?_
  · rintro ⟨h1, h2⟩
    have hl := (List.getElem?_eq_some_iff.1 h2).1
    exact h.no j (by omega) ⟨h1, h2⟩
  · by_cases h0 : i = 0
    · intro h1
      have hl := (List.getElem?_eq_some_iff.1 h1).1
      omega
    · exact h.first (by omega)
theorem scanHead (l : List UInt8) (hl : l.length ≤ 900000) (R : List S78 × ByteArray × Int × Int)
    (hR : ∀ x7 : Int, Ev (fun k => bulletinref15_Parse.j1 k (mkS l) ((headL l).1.length : Int) (headL l).2 x7 false) R) : ∀ d i : Nat, l.length + 1 - i = d → HInv l i →
    Ev (fun k => bulletinref15_Parse.l0 k (mkS l) (l.length : Int) false (i : Int)) R := by
  intro d
  induction d using Nat.strongRecOn with
  | _ d ih =>
    intro i hd h
    refine Ev.next ?_
    simp only [bulletinref15_Parse.l0, mkS_size]
    by_cases hlt : i < l.length
    · refine Ev.ite_pos (by omega) (Ev.next ?_)
      simp only [bulletinref15_Parse.j1, mkS_size]
      refine Ev.ite_pos (by simp) (Ev.bind (refEndE l (by omega) i (by omega)) ?_)
      have hln := lineN_le (l.drop i)
      rw [List.length_drop] at hln
      rw [wrap_nat _ (by omega)]
      by_cases h0 : l[i]? = some 10
      · have hz : lineN (l.drop i) = 0 := by
          have hi2 : l[i] = 10 := by rw [List.getElem?_eq_getElem hlt] at h0; injection h0
          rw [List.drop_eq_getElem_cons hlt, hi2]
          rfl
        refine Ev.ite_pos (by omega) (Ev.next ?_)
        have hf := head_found h h0
        simp only [bulletinref15_Parse.l0, mkS_size]
        have hr := hR ((i + lineN (l.drop i) + 1 : Nat) : Int)
        rw [hf] at hr
        simp only [List.length_take] at hr
        rw [show min i l.length = i by omega] at hr
        by_cases hc : ((i + lineN (l.drop i) + 1 : Nat) : Int) < (l.length : Int)
        · exact Ev.ite_pos hc hr
        · exact Ev.ite_neg hc hr
      · have hz : lineN (l.drop i) ≠ 0 := by
          intro hz
          have := line_at l i (by omega)
          rw [hz, Nat.add_zero] at this
          exact h0 this
        refine Ev.ite_neg (by omega) ?_
        exact ih (l.length + 1 - (i + lineN (l.drop i) + 1)) (by omega) (i + lineN (l.drop i) + 1) rfl (inv_next h hlt h0)
    · refine Ev.ite_neg (by omega) ?_
      have := hR (i : Int)
      rw [inv_end h (by omega)] at this
      exact this
theorem headL_len (l : List UInt8) : (headL l).1.length ≤ l.length := by
  unfold headL
  split
  · simp
  · split
    · simp only [List.length_take]; omega
    · exact Nat.le_refl _
theorem headL_room (l : List UInt8) (h : (headL l).2 = true) : (headL l).1.length + 1 ≤ l.length := by
  have e := headA_mk l
  have := headA_len (mkS l) (by rw [e]; exact h)
  rw [e] at this
  simp only [mkS_size] at this
  exact this
theorem headL_take (l : List UInt8) : l.take (headL l).1.length = (headL l).1 := by
  unfold headL
  split
  · rfl
  · split
    · simp only [List.length_take]
      rw [Nat.min_comm, ← List.take_take, List.take_of_length_le (by simp only [List.length_take]; omega)]
    · exact List.take_length

/-! ### Parse -/
def bodyOf (l : List UInt8) : List UInt8 := l.drop ((headL l).1.length + 1)
def apR (l : List UInt8) : List Fld × List UInt8 × Int × Int :=
  if 65536 < l.length then ([], [], 65536, 5)
  else if (parseP (headL l).1).2.2 ≠ 0 then ([], [], (parseP (headL l).1).2.1, (parseP (headL l).1).2.2)
  else if (headL l).2 = false then ([], [], (l.length : Int), 4)
  else if (bodyU (bodyOf l)).2 ≠ 0 then ([], [], (((headL l).1.length + 1 : Nat) : Int) + (bodyU (bodyOf l)).1, (bodyU (bodyOf l)).2)
  else ((parseP (headL l).1).1, bodyOf l, 0, 0)
theorem aparseF (l : List UInt8) (hl : l.length ≤ 900000) : Ev (fun k => GV.AParse.f k (mkS l)) ((apR l).1.map toS, mkS (apR l).2.1, (apR l).2.2.1, (apR l).2.2.2) := by
  have hh := headA_mk l
  have hle := headL_len l
  have e1 : errA (mkS l) = (parseP (headL l).1).2.2 := by unfold errA; rw [hh]; simp only [mkS_toList]
  have e2 : atA (mkS l) = (parseP (headL l).1).2.1 := by unfold atA; rw [hh]; simp only [mkS_toList]
  have e3 : fldsA (mkS l) = (parseP (headL l).1).1.map toS := by unfold fldsA; rw [hh]; simp only [mkS_toList]
  have e4 : restA (mkS l) = mkS (bodyOf l) := by
    unfold restA bodyOf; rw [hh]
    simp only [mkS_size]
    rw [extract_mk, mkS_toList, List.take_of_length_le (by rw [List.length_drop]; omega)]
  unfold GV.AParse.f
  rw [e1, e2, e3, e4, hh]
  simp only [mkS_size]
  by_cases h1 : 65536 < l.length
  · have e : apR l = ([], [], 65536, 5) := by unfold apR; rw [if_pos h1]
    rw [e]; exact Ev.ite_pos h1 (Ev.const rfl)
  · refine Ev.ite_neg h1 ?_
    by_cases h2 : (parseP (headL l).1).2.2 ≠ 0
    · have e : apR l = ([], [], (parseP (headL l).1).2.1, (parseP (headL l).1).2.2) := by unfold apR; rw [if_neg h1, if_pos h2]
      rw [e]; exact Ev.ite_pos h2 (Ev.const rfl)
    · refine Ev.ite_neg h2 ?_
      by_cases h3 : (headL l).2 = false
      · have e : apR l = ([], [], (l.length : Int), 4) := by unfold apR; rw [if_neg h1, if_neg h2, if_pos h3]
        rw [e]; exact Ev.ite_pos h3 (Ev.const rfl)
      · have hbl : (bodyOf l).length ≤ l.length := by unfold bodyOf; rw [List.length_drop]; omega
        have hb := bodyU_le (bodyOf l)
        refine Ev.ite_neg h3 (Ev.bind (checkBodyF (bodyOf l) (by omega)) ?_)
        by_cases h4 : (bodyU (bodyOf l)).2 ≠ 0
        · have e : apR l = ([], [], (((headL l).1.length + 1 : Nat) : Int) + (bodyU (bodyOf l)).1, (bodyU (bodyOf l)).2) := by unfold apR; rw [if_neg h1, if_neg h2, if_neg h3, if_pos h4]
          rw [e]
          refine Ev.ite_pos h4 (Ev.const ?_)
          rw [wrap64_small (by omega) (by omega)]
          have e5 : ((headL l).1.length : Int) + 1 + (bodyU (bodyOf l)).1 = (((headL l).1.length + 1 : Nat) : Int) + (bodyU (bodyOf l)).1 := by omega
          rw [e5]; rfl
        · have e : apR l = ((parseP (headL l).1).1, bodyOf l, 0, 0) := by unfold apR; rw [if_neg h1, if_neg h2, if_neg h3, if_neg h4]
          rw [e]; exact Ev.ite_neg h4 (Ev.const rfl)
theorem refParse15 (l : List UInt8) (hl : l.length ≤ 900000) : Ev (fun k => bulletinref15_Parse.f k (mkS l)) ((apR l).1.map toR, mkS (apR l).2.1, (apR l).2.2.1, (apR l).2.2.2) := by
  have hle := headL_len l
  unfold bulletinref15_Parse.f
  simp only [mkS_size]
  by_cases h1 : 65536 < l.length
  · have e : apR l = ([], [], 65536, 5) := by unfold apR; rw [if_pos h1]
    rw [e]; exact Ev.ite_pos (by omega) (Ev.const rfl)
  · refine Ev.ite_neg (by omega) ?_
    refine scanHead l hl _ (fun x7 => ?_) _ 0 rfl ⟨fun j hj => by omega, fun h => by omega, fun h => by omega⟩
    have ext : (mkS l).extract 0 (((headL l).1.length : Int)).toNat = mkS (headL l).1 := by
      rw [Int.toNat_natCast, extract_mk, mkS_toList, List.drop_zero, Nat.sub_zero, headL_take]
    refine Ev.next ?_
    simp only [bulletinref15_Parse.j1, mkS_size]
    rw [ext, wrap_nat _ (by omega)]
    refine Ev.ite_neg (by simp) (Ev.ite_pos (by omega) (Ev.ite_pos (by omega) (Ev.bind (refParseF (headL l).1) ?_)))
    by_cases h2 : (parseP (headL l).1).2.2 ≠ 0
    · have e : apR l = ([], [], (parseP (headL l).1).2.1, (parseP (headL l).1).2.2) := by unfold apR; rw [if_neg h1, if_pos h2]
      rw [e]; exact Ev.ite_neg h2 (Ev.const rfl)
    · refine Ev.ite_pos (by simpa using h2) ?_
      by_cases h3 : (headL l).2 = false
      · have e : apR l = ([], [], (l.length : Int), 4) := by unfold apR; rw [if_neg h1, if_neg h2, if_pos h3]
        rw [e]; exact Ev.ite_neg (by simp [h3]) (Ev.const rfl)
      · have h3' : (headL l).2 = true := by simpa using h3
        have hroom := headL_room l h3'
        have hbl : (bodyOf l).length ≤ l.length := by unfold bodyOf; rw [List.length_drop]; omega
        have hb := bodyU_le (bodyOf l)
        have ext2 : (mkS l).extract ((((headL l).1.length + 1 : Nat) : Int)).toNat l.length = mkS (bodyOf l) := by
          unfold bodyOf
          rw [Int.toNat_natCast, extract_mk, mkS_toList, List.take_of_length_le (by rw [List.length_drop]; omega)]
        rw [ext2]
        refine Ev.ite_pos h3' (Ev.ite_pos (by omega) (Ev.ite_pos (by omega) (Ev.bind (refBodyF (bodyOf l) (by omega)) ?_)))
        have hbl2 : (bodyOf l).length = l.length - ((headL l).1.length + 1) := by unfold bodyOf; rw [List.length_drop]
        by_cases h4 : (bodyU (bodyOf l)).2 ≠ 0
        · have e : apR l = ([], [], (((headL l).1.length + 1 : Nat) : Int) + (bodyU (bodyOf l)).1, (bodyU (bodyOf l)).2) := by unfold apR; rw [if_neg h1, if_neg h2, if_neg h3, if_pos h4]
          rw [e]
          refine Ev.ite_neg h4 (Ev.const ?_)
          rw [wrap64_small (by omega) (by omega)]
          rfl
        · have e : apR l = ((parseP (headL l).1).1, bodyOf l, 0, 0) := by unfold apR; rw [if_neg h1, if_neg h2, if_neg h3, if_neg h4]
          rw [e]; exact Ev.ite_pos (by simpa using h4) (Ev.const rfl)

/-! ### the same -/
theorem rd76 (l : List S76) (i : Nat) (h : i < l.length) : rd_T76 l (i : Int) = l[i] := by
  unfold rd_T76; rw [Int.toNat_natCast, List.getD_eq_getElem?_getD, List.getElem?_eq_getElem h]; rfl
theorem rd78 (l : List S78) (i : Nat) (h : i < l.length) : rd_T78 l (i : Int) = l[i] := by
  unfold rd_T78; rw [Int.toNat_natCast, List.getD_eq_getElem?_getD, List.getElem?_eq_getElem h]; rfl
theorem same_loop (fs : List Fld) (hn : fs.length ≤ 1100000) (b : ByteArray) : ∀ d i : Nat, fs.length - i = d → i ≤ fs.length → Ev (fun k => bulletinlaw15_same.l0 k (i : Int) (fs.map toS) b (fs.map toR) b) true := by
  intro d
  induction d with
  | zero =>
    intro i hd hi
    refine Ev.next ?_
    simp only [bulletinlaw15_same.l0, List.length_map]
    exact Ev.ite_neg (by omega) (Ev.const rfl)
  | succ d ih =>
    intro i hd hi
    have hlt : i < fs.length := by omega
    refine Ev.next ?_
    simp only [bulletinlaw15_same.l0, List.length_map]
    rw [rd76 _ i (by rw [List.length_map]; exact hlt), rd78 _ i (by rw [List.length_map]; exact hlt), List.getElem_map, List.getElem_map, wrap_nat i (by omega)]
    exact Ev.ite_pos (by omega) (Ev.ite_pos (by omega) (Ev.ite_pos (by omega) (Ev.ite_pos rfl (Ev.ite_pos rfl (ih (i + 1) (by omega) (by omega))))))
theorem same15 (fs : List Fld) (hn : fs.length ≤ 1100000) (b : ByteArray) : Ev (fun k => bulletinlaw15_same.f k (fs.map toS) b (fs.map toR) b) true := by
  unfold bulletinlaw15_same.f
  refine Ev.ite_pos (by simp) ?_
  refine Ev.next ?_
  simp only [bulletinlaw15_same.j0]
  exact Ev.ite_neg (by simp) (same_loop fs hn b _ 0 rfl (by omega))

/-! ### Print -/
def apP (fs : List Fld) (b : List UInt8) : List UInt8 × Int :=
  if (printP fs).2 ≠ 0 then ([], (printP fs).2) else if (bodyU b).2 ≠ 0 then ([], (bodyU b).2)
  else if 65536 < (printP fs).1.length + 1 + b.length then ([], 5) else ((printP fs).1 ++ 10 :: b, 0)
theorem printHdr (fs : List Fld) (b : List UInt8) (hb : b.length ≤ 900000) :
    (if (wrap64 ((wrap64 (((mkS (printP fs).1).size : Int) + 1)) + ((mkS b).size : Int))) > 65536 then (some ((⟨#[]⟩ : ByteArray), (5 : Int))) else (if (mkS (printP fs).1).size + 1 ≤ 9223372036854775807 then (if ((mkS (printP fs).1) ++ (⟨#[10]⟩ : ByteArray)).size + (mkS b).size ≤ 9223372036854775807 then (some (((mkS (printP fs).1) ++ (⟨#[10]⟩ : ByteArray)) ++ mkS b, 0)) else (none)) else (none))) =
    some (if 65536 < (printP fs).1.length + 1 + b.length then (⟨#[]⟩, 5) else (mkS ((printP fs).1 ++ 10 :: b), 0)) := by
  have hp := printP_small fs
  have e3 : ∀ t : List UInt8, mkS t ++ (⟨#[10]⟩ : ByteArray) = mkS (t ++ [10]) := fun t => mkS_append t [10]
  rw [e3, mkS_append, mkS_size, mkS_size, mkS_size, wrap_nat _ (by omega), wrap_add _ _ (by omega)]
  by_cases h : 65536 < (printP fs).1.length + 1 + b.length
  · rw [if_pos (by omega), if_pos h]
  · rw [if_neg (by omega), if_neg h, if_pos (by omega), if_pos (by simp; omega)]
    simp
theorem aprintF (fs : List Fld) (hf : ∀ f ∈ fs, f.name.length ≤ 1100000 ∧ f.body.length ≤ 1100000) (b : List UInt8) (hb : b.length ≤ 900000) : Ev (fun k => PC.article_Print.f k (fs.map toS) (mkS b)) (mkS (apP fs b).1, (apP fs b).2) := by
  unfold PC.article_Print.f
  refine Ev.bind (printF fs hf) ?_
  simp only []
  rw [printHdr fs b hb]
  by_cases h1 : (printP fs).2 ≠ 0
  · have e : apP fs b = ([], (printP fs).2) := by unfold apP; rw [if_pos h1]
    rw [e]; exact Ev.ite_neg h1 (Ev.const rfl)
  · refine Ev.ite_pos (by simpa using h1) (Ev.bind (checkBodyF b hb) ?_)
    by_cases h2 : (bodyU b).2 ≠ 0
    · have e : apP fs b = ([], (bodyU b).2) := by unfold apP; rw [if_neg h1, if_pos h2]
      rw [e]; exact Ev.ite_neg h2 (Ev.const rfl)
    · refine Ev.ite_pos (by simpa using h2) (Ev.const ?_)
      unfold apP
      rw [if_neg h1, if_neg h2]
      split <;> rfl
/-! ### parsed behind printing -/
/-- Lines that are not empty. -/
inductive HLines : List UInt8 → Prop
  | nil : HLines []
  | cons {t r : List UInt8} (h0 : t ≠ []) (h1 : ∀ c ∈ t, notNl c = true) (h : HLines r) : HLines (t ++ 10 :: r)
theorem HLines.app {a b : List UInt8} (ha : HLines a) (hb : HLines b) : HLines (a ++ b) := by
  induction ha with
  | nil => exact hb
  | cons h0 h1 h ih =>
    rename_i t r
    have e : (t ++ 10 :: r) ++ b = t ++ 10 :: (r ++ b) := by simp
    rw [e]; exact .cons h0 h1 ih
theorem HLines.one {t : List UInt8} (h0 : t ≠ []) (h1 : ∀ c ∈ t, notNl c = true) : HLines (t ++ [10]) := .cons h0 h1 .nil
theorem foldW_lines : ∀ (ws : List (List UInt8)) (out line : List UInt8) (e : Bool), HLines out → line ≠ [] → (∀ c ∈ line, notNl c = true) → (∀ x ∈ ws, ∀ c ∈ x, notNl c = true) → HLines (foldW ws out line e)
  | [], out, line, e, ho, h0, h1, _ => ho.app (.one h0 h1)
  | x :: xs, out, line, e, ho, h0, h1, hw => by
    have hx := hw x (by simp)
    have hxs : ∀ y ∈ xs, ∀ c ∈ y, notNl c = true := fun y hy => hw y (by simp [hy])
    unfold foldW
    split
    · refine foldW_lines xs _ _ _ (ho.app (.one h0 h1)) (by simp) (fun c hc => ?_) hxs
      rcases List.mem_cons.1 hc with rfl | hc
      · decide
      · exact hx c hc
    · refine foldW_lines xs _ _ _ ho (by simp) (fun c hc => ?_) hxs
      rcases List.mem_append.1 hc with hc | hc
      · exact h1 c hc
      · rcases List.mem_cons.1 hc with rfl | hc
        · decide
        · exact hx c hc
theorem foldL_lines {f : Fld} (h : GoodF f) : HLines (foldL f.name f.body) := by
  unfold foldL
  obtain ⟨h1, h2, h3⟩ := valid_parts h.name
  refine foldW_lines _ _ _ _ .nil (by simp) (fun c hc => ?_) (fun x hx c hc => ((h.words x hx).2.2 c hc).2)
  rcases List.mem_append.1 hc with hc | hc
  · exact (name_bytes c (h3 c hc)).2.1
  · have : c = 58 := by simpa using hc
    subst this; decide
theorem printL_lines : ∀ fs : List Fld, (∀ f ∈ fs, GoodF f) → HLines (printL fs)
  | [], _ => .nil
  | f :: fs, h => by
    have e : printL (f :: fs) = foldL f.name f.body ++ printL fs := by simp [printL]
    rw [e]; exact (foldL_lines (h f (by simp))).app (printL_lines fs (fun g hg => h g (by simp [hg])))
theorem HLines.inv {a : List UInt8} (h : HLines a) : (∀ j : Nat, ¬ (a[j]? = some 10 ∧ a[j + 1]? = some 10)) ∧ a[0]? ≠ some 10 ∧ (a ≠ [] → a[a.length - 1]? = some 10) := by
  induction h with
  | nil => refine ⟨fun j => by simp, by simp, fun h => absurd rfl h⟩
  | cons h0 h1 h ih =>
    rename_i t r
    obtain ⟨i1, i2, i3⟩ := ih
    have hlt : ∀ j, j < t.length → (t ++ 10 :: r)[j]? ≠ some 10 := by
      intro j hj hc
      rw [List.getElem?_append_left hj, List.getElem?_eq_getElem hj] at hc
      injection hc with hc
      have := h1 _ (List.getElem_mem hj)
      rw [hc] at this
      exact absurd this (by decide)
    have hge : ∀ j, (t ++ 10 :: r)[t.length + 1 + j]? = r[j]? := by
      intro j
      rw [List.getElem?_append_right (by omega), show t.length + 1 + j - t.length = j + 1 by omega, List.getElem?_cons_succ]
    have htl : 0 < t.length := List.length_pos_iff.2 h0
    refine ⟨fun j => ?_, hlt 0 htl, fun _ => ?_⟩
    · rintro ⟨c1, c2⟩
      by_cases hj : j < t.length
      · exact hlt j hj c1
      · by_cases hk : j = t.length
        · subst hk
          have := hge 0
          rw [Nat.add_zero] at this
          rw [this] at c2
          exact i2 c2
        · obtain ⟨m, rfl⟩ : ∃ m, j = t.length + 1 + m := ⟨j - t.length - 1, by omega⟩
          rw [hge m] at c1
          rw [show t.length + 1 + m + 1 = t.length + 1 + (m + 1) by omega, hge (m + 1)] at c2
          exact i1 m ⟨c1, c2⟩
    · by_cases hr : r = []
      · subst hr
        simp
      · have hrl : 0 < r.length := List.length_pos_iff.2 hr
        have e : (t ++ 10 :: r).length - 1 = t.length + 1 + (r.length - 1) := by simp; omega
        rw [e, hge]
        exact i3 hr
theorem head_printed {h b : List UInt8} (hh : HLines h) : headL (h ++ 10 :: b) = (h, true) := by
  obtain ⟨i1, i2, i3⟩ := hh.inv
  have hlt : ∀ j, j < h.length → (h ++ 10 :: b)[j]? = h[j]? := fun j hj => List.getElem?_append_left hj
  have hi : HInv (h ++ 10 :: b) h.length := by
    refine ⟨fun j hj => ?_, fun h0 => ?_, fun h0 _ => ?_⟩
    · rw [hlt j (by omega), hlt (j + 1) (by omega)]; exact i1 j
    · rw [hlt 0 h0]; exact i2
    · rw [hlt _ (by omega)]; exact i3 (List.length_pos_iff.1 h0)
  have := head_found hi (by simp)
  rw [this, List.take_left]
theorem parse_printed (fs : List Fld) (b : List UInt8) (h : (apP fs b).2 = 0) : (apP fs b).1.length ≤ 65536 ∧ apR (apP fs b).1 = (fs, b, 0, 0) := by
  unfold apP at h ⊢
  by_cases h1 : (printP fs).2 ≠ 0
  · rw [if_pos h1] at h; exact absurd h h1
  · rw [if_neg h1] at h ⊢
    by_cases h2 : (bodyU b).2 ≠ 0
    · rw [if_pos h2] at h; exact absurd h h2
    · rw [if_neg h2] at h ⊢
      by_cases h3 : 65536 < (printP fs).1.length + 1 + b.length
      · rw [if_pos h3] at h; exact absurd h (by decide)
      · rw [if_neg h3]
        have hp0 : (printP fs).2 = 0 := by simpa using h1
        have hpo := printP_ok fs hp0
        have hlen : ((printP fs).1 ++ 10 :: b).length ≤ 65536 := by simp; omega
        have h64 : ¬ 64 < fs.length := by
          intro h64
          unfold printP at hp0
          rw [if_pos h64] at hp0
          exact absurd hp0 (by decide)
        have hgo : (printGo fs []).2 = 0 := by
          unfold printP at hp0; rw [if_neg h64] at hp0; exact hp0
        obtain ⟨hc, he, _⟩ := printGo_ok fs [] hgo
        have he2 : (printP fs).1 = printL fs := by
          unfold printP; rw [if_neg h64, he, List.nil_append]
        have hlines : HLines (printP fs).1 := by
          rw [he2]; exact printL_lines fs (fun f hf => good_of_check (hc f hf))
        refine ⟨hlen, ?_⟩
        have hh := head_printed (b := b) hlines
        have hbo : bodyOf ((printP fs).1 ++ 10 :: b) = b := by
          unfold bodyOf
          rw [hh]
          simp only []
          rw [← List.drop_drop, List.drop_left]; rfl
        show apR ((printP fs).1 ++ 10 :: b) = (fs, b, 0, 0)
        unfold apR
        rw [if_neg (by omega), hbo, hh]
        simp only [hpo]
        rw [if_neg (by decide), if_neg (by decide), if_neg h2]
theorem apR_flds (l : List UInt8) : (apR l).1.length ≤ 64 := by
  unfold apR
  split
  · simp
  · split
    · simp
    · split
      · simp
      · split
        · simp
        · exact parse_len _
end Go.Proofs.YtfeciafdioepiaaGreatDoor
set_option linter.unusedVariables false
set_option linter.unusedSimpArgs false
namespace Go.Proofs.YtfeciafdioepiaaGreatDoor
open Go.RowKit Go.Proofs Go.Proofs.YtfeciafdioepiaaGreatDoorW.PrintWords Go.Proofs.YtfeciafdioepiaaGreatDoorW.PrintMore Go.Proofs.YtfeciafdioepiaaGreatDoor.PA
theorem Parses_pure : PL.bulletinlaw15_ArticleParses.Pure := by
  intro a ha
  obtain ⟨l, rfl⟩ : ∃ l, a = mkS l := ⟨a.data.toList, (mkS_data a).symm⟩
  refine Ev.at_ ?_
  unfold PL.bulletinlaw15_ArticleParses.f
  have hs := shortF l 5000 (by omega)
  rw [show ((5000 : Nat) : Int) = 5000 from rfl] at hs
  rw [hs]
  have hlen : (l.take 5000).length ≤ 5000 := by rw [List.length_take]; omega
  generalize l.take 5000 = t at *
  simp only [Option.bind_some]
  have hfl := apR_flds t
  refine Ev.bind (aparseF t (by omega)) (Ev.bind (refParse15 t (by omega)) (Ev.bind (a := true) (Ev.const rfl) (Ev.ite_pos rfl (Ev.bind (same15 (apR t).1 (by omega) _) (Ev.ite_pos rfl (Ev.ite_pos rfl ?_))))))
  refine Ev.next ?_
  simp only [PL.bulletinlaw15_ArticleParses.j0]
  refine Ev.ite_neg (by simp) ?_
  by_cases h0 : (apR t).2.2.2 = 0
  · refine Ev.ite_pos h0 ?_
    -- what was parsed is valid
    have hok : (∀ f ∈ (apR t).1, checkL f.name f.body = 0) ∧ (bodyU (apR t).2.1).2 = 0 ∧ (apR t).2.1.length ≤ t.length := by
      unfold apR at h0 ⊢
      split at h0
      · simp at h0
      · rename_i h1
        rw [if_neg h1]
        split at h0
        · rename_i h2; exact absurd h0 h2
        · rename_i h2
          rw [if_neg h2]
          split at h0
          · simp at h0
          · rename_i h3
            rw [if_neg h3]
            split at h0
            · rename_i h4; exact absurd h0 h4
            · rename_i h4
              rw [if_neg h4]
              refine ⟨(parse_kept _ (by simpa using h2)).1, by simpa using h4, ?_⟩
              show (bodyOf t).length ≤ t.length
              unfold bodyOf; rw [List.length_drop]; omega
    obtain ⟨hc, hb, hbl⟩ := hok
    generalize (apR t).1 = fs at *
    generalize (apR t).2.1 = b at *
    have hgood : ∀ f ∈ fs, GoodF f := fun f hf => good_of_check (hc f hf)
    have hsmall : ∀ f ∈ fs, f.name.length ≤ 1100000 ∧ f.body.length ≤ 1100000 := fun f hf => ⟨by have := (valid_parts (hgood f hf).name).1; omega, by have := (hgood f hf).len; omega⟩
    refine Ev.bind (aprintF fs hsmall b (by omega)) ?_
    have hP := printP_good fs hfl hc
    by_cases h5 : (apP fs b).2 = 5
    · have hlen5 : (apP fs b).1.length ≤ 900000 := by
        have hps := printP_small fs
        unfold apP
        split
        · simp
        · split
          · simp
          · split
            · simp
            · simp; omega
      exact Ev.bind (aparseF _ hlen5) (Ev.ite_pos h5 (Ev.const rfl))
    · have hz : (apP fs b).2 = 0 := by
        unfold apP at h5 ⊢
        rw [hP] at h5 ⊢
        by_cases h6 : 65536 < (printL fs).length
        · rw [if_pos h6] at h5; exact absurd rfl h5
        · rw [if_neg h6] at h5 ⊢
          rw [if_neg (by simp), if_neg (by simpa using hb)] at h5 ⊢
          split at h5
          · exact absurd rfl h5
          · rename_i h7; rw [if_neg h7]
      obtain ⟨hl6, hap⟩ := parse_printed fs b hz
      have hpz := aparseF (apP fs b).1 (by omega)
      rw [hap] at hpz
      refine Ev.bind hpz (Ev.ite_neg h5 (Ev.ite_pos hz (Ev.ite_pos rfl ?_)))
      exact Ev.bind (same15 fs (by omega) _) (Ev.const rfl)
  · exact Ev.ite_neg h0 (Ev.const rfl)
end Go.Proofs.YtfeciafdioepiaaGreatDoor
namespace Go.Proofs.YtfeciafdioepiaaGreatDoor.Pure
theorem ArticleParses : Go.Proofs.YtfeciafdioepiaaGreatDoor.PL.bulletinlaw15_ArticleParses.Pure := Go.Proofs.YtfeciafdioepiaaGreatDoor.Parses_pure
end Go.Proofs.YtfeciafdioepiaaGreatDoor.Pure
namespace Go.Proofs.YtfeciafdioepiaaGreatDoor.articleParses
open Go.ChangeShapes Go.WideShapes Go.ChangeAt Go.RowKit
open Go.ChangeMaps (open_string shut_string)
set_option linter.unusedVariables false
theorem own : ownKnob Tryz.prog.godebug = none := by kernel_rfl
set_option maxRecDepth 100000 in
theorem lifted (os : Os) (started : os.Started) (H : Type) (enc : TypeId × Value → H) :
    ReturnsInHanded {} Tryz.checked os 3 .any (fun w args => (Rows.articleParsesSpec.pre enc Tryz.prog Tryz.f3 Rows.articleParsesRow.domain false w args ∧ laidMetH Tryz.prog Rows.articleParsesRow.laid w) ∧ sizedMet enc Tryz.prog Tryz.f3 (OpenSpec.ofChange Rows.articleParsesSpec) false w args) (Rows.articleParsesSpec.post enc Tryz.prog Tryz.f3 false true false false) := by
  refine handed_laid own started (by kernel_rfl) Tryz.func3
    (ChangeSpec.witness_shaped (enc := enc) (C := Tryz.checked) (os := os) (X := fun w _ => laidMetH Tryz.prog Rows.articleParsesRow.laid w) false (World.laidAll Tryz.prog os Rows.articleParsesRow.laid) #[.string ByteArray.empty] 8 (World.laidAll_os _ _ _)
      (World.shaped_of_ZipB (by kernel_rfl) (by kernel_rfl)) (by kernel_rfl) (by kernel_rfl) (by kernel_rfl)
      (by rw [MakeChecks.laidMetH_plain _ _ _ (by kernel_rfl)]; exact laidMet_laidAll _ (by kernel_rfl) (by kernel_rfl))) ?_
  intro W base args ds gs before hval0 hW hcnd hsz0 hL hsh _
  have hsz : (DataW.weightsEach Tryz.prog (Tryz.f3.params.toList ++ Rows.articleParsesSpec.plain.varTypes Tryz.prog) (ds ++ gs)).all (· ≤ reachBytes) = true := hsz0
  have hval : ∀ (j : Nat) t v, Tryz.f3.params[j]? = some t → args[j]? = some v → Value.okWide Tryz.prog W .any base t v := hval0
  have hW' := hW
  obtain ⟨p, q, hA0, hV, rfl, hfz, hnd⟩ := hW
  have hA : DataW.TrodAll enc Tryz.prog W 0 (fun _ => true) true Tryz.f3.params.toList args.toList ds p := hA0
  rw [Tryz.params3] at hA hval hsz
  obtain ⟨v0, vs0, d0, ds0, p0, q0, hargs, rfl, rfl, h0, r0⟩ := trodAll_cons hA
  obtain ⟨rfl, rfl, rfl⟩ := trodAll_nil r0
  obtain rfl : args = #[v0] := by cases args; simp_all
  obtain ⟨rfl, rfl⟩ := trodVars_none hV
  obtain ⟨a0, rfl, rfl, rfl, y0⟩ := open_string Tryz.underlying9 (hval 0 9 v0 rfl rfl) h0
  have w0 : a0.size ≤ 140737488351232 := by
    have z := sized_string hsz (j := 0) (t := 9) rfl rfl
    rw [Array.length_toList] at z
    exact z
  clear hA0 hval0 hsz0 hsz
  refine (PL.bulletinlaw15_ArticleParses.walk Pure.ArticleParses a0 W (Tryz.laysM143.s1_3 W hsh) w0).mono fun e W' ⟨he, bel⟩ => ?_
  subst he
  exact ⟨_, rfl, _, _, _, [], _, [], hW', trodAll_mk1 (shut_bool Tryz.underlying4 _), (trodAll_cons_mk (shut_string Tryz.underlying9 y0) trodAll_mk0), rfl, bel.frame _, fun h => by cases h⟩
theorem over : Rows.articleParsesRow.holds Tryz.pinned (OpenSpec.ofChange Rows.articleParsesSpec) :=
  OpenClaim.holds_of_wide 3 Tryz.f3 rfl rfl rfl rfl rfl rfl rfl ⟨rfl, rfl, rfl, rfl, rfl⟩ rfl rfl rfl rfl rfl (by kernel_rfl) Tryz.func3 (by kernel_rfl)
    (of_decide_eq_true (by kernel_rfl)) (by unfold Func.isWrapper; first | (rw [if_pos (by decide +kernel)]; kernel_rfl) | (rw [if_neg (by decide +kernel)]; exact ⟨rfl, rfl⟩))
    (fun os started H enc _ => lifted os started H enc)
theorem row_holds : Rows.ArticleParsesSaid := over
theorem card_holds : Rows.ArticleParsesCardSaid :=
  Claim7.holds_tied_plain_at .later [] [.data, .pinned] true (true, "0ed969f1a3953f9b426fc905d95e5da96efd084e39c94fceb3821d79c3635a2d") false row_holds (fun _ h => by cases h) (by kernel_rfl) (fun _ h => by cases h) articleParses_row_tie rfl ⟨rfl, rfl⟩ (by kernel_rfl) rfl
    (fun f fn hf hfn => by
      obtain rfl : f = 3 := Option.some.inj ((show Tryz.prog.funcNamed "bulletin/bulletinlaw15.ArticleParses" = some 3 by kernel_rfl).symm.trans hf) |>.symm
      obtain rfl : fn = Tryz.f3 := (Option.some.inj (Tryz.func3.symm.trans hfn)).symm
      exact ⟨by kernel_rfl, fun j t ht => by
        rw [Tryz.params3] at ht
        have hm : t ∈ [9] := by simpa using Array.mem_of_getElem? ht
        have hall : ([9].all fun u => !Tryz.prog.wantsStandIn u) = true := by kernel_rfl
        exact (show Tryz.prog.wantsStandIn t = false by simpa using List.all_eq_true.1 hall t hm)⟩)
    (by kernel_rfl)
#print axioms card_holds
end Go.Proofs.YtfeciafdioepiaaGreatDoor.articleParses
namespace Go.Proofs.YtfeciafdioepiaaGreatDoor
/-- The card, under a short name, for the claim. -/
theorem articleParses_holds : Rows.ArticleParsesCardSaid := articleParses.card_holds
end Go.Proofs.YtfeciafdioepiaaGreatDoor
