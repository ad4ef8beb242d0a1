/- Merged texts: P1, P2, P3 -/
import Derived.Test.YtfeciafdioepiaaHB
import Derived.Test.YtfeciafdioepiaaPA3
import Derived.Test.YtfeciafdioepiaaPA4
set_option linter.unusedVariables false
set_option linter.unusedSimpArgs false
/- The reference's ValidName as a function on lists. -/
namespace Go.Proofs.Ytfeciafdioepiaa
open Go.RowKit Go.Proofs Go.Proofs.YtfeciafdioepiaaW.PrintWords Go.Proofs.Ytfeciafdioepiaa.PA

def lowU (c : UInt8) : Bool := decide (97 ≤ c) && decide (c ≤ 122)
def uppU (c : UInt8) : Bool := decide (65 ≤ c) && decide (c ≤ 90)
theorem rLowF (c : UInt8) : bulletinref01_Lowercase.f (c.toNat : Int) = some (lowU c) := by
  refine all_u8 (P := fun c => bulletinref01_Lowercase.f (c.toNat : Int) = some (lowU c)) ?_ c
  decide +kernel
theorem rUppF (c : UInt8) : bulletinref01_Uppercase.f (c.toNat : Int) = some (uppU c) := by
  refine all_u8 (P := fun c => bulletinref01_Uppercase.f (c.toNat : Int) = some (uppU c)) ?_ c
  decide +kernel
theorem rDigF (c : UInt8) : bulletinref01_Digit.f (c.toNat : Int) = some (isDigitU c) := by
  refine all_u8 (P := fun c => bulletinref01_Digit.f (c.toNat : Int) = some (isDigitU c)) ?_ c
  decide +kernel
theorem letter_or (c : UInt8) : isLetterU c = (lowU c || uppU c) := by
  refine all_u8 (P := fun c => isLetterU c = (lowU c || uppU c)) ?_ c
  decide +kernel

theorem refValidLoop (l : List UInt8) (hl : l.length ≤ 1000000) : ∀ d k i : Nat, l.length - i = d → d < k → i ≤ l.length → 0 < i →
    bulletinref09_ValidName.l0 k (mkS l) (i : Int) = some ((l.drop i).all nameByte) := by
  have hs := mkS_size l
  intro d
  induction d with
  | zero =>
    intro k i hd hk hi _
    obtain ⟨k, rfl⟩ : ∃ m, k = m + 1 := ⟨k - 1, by omega⟩
    simp only [bulletinref09_ValidName.l0]
    rw [if_neg (by omega), List.drop_eq_nil_of_le (by omega)]; rfl
  | succ d ih =>
    intro k i hd hk hi h0
    obtain ⟨k, rfl⟩ : ∃ m, k = m + 1 := ⟨k - 1, by omega⟩
    simp only [bulletinref09_ValidName.l0]
    have hlt : i < l.length := by omega
    have hw : wrap64 ((i : Int) + 1) = ((i + 1 : Nat) : Int) := by unfold wrap64; omega
    rw [if_pos (by omega), if_pos (by omega), bt_mk l i hlt, rLowF, List.drop_eq_getElem_cons hlt, List.all_cons, hw]
    simp only [Option.bind_some]
    have hih := ih k (i + 1) (by omega) (by omega) (by omega) (by omega)
    rw [hih]
    by_cases h1 : lowU l[i] = true
    · rw [if_pos h1]; simp [nameByte, letter_or, h1]
    · rw [if_neg h1, rUppF]
      simp only [Option.bind_some]
      by_cases h2 : uppU l[i] = true
      · rw [if_pos h2]; simp [nameByte, letter_or, h2]
      · rw [if_neg h2, if_neg (by omega), rDigF]
        simp only [Option.bind_some]
        by_cases h3 : isDigitU l[i] = true
        · rw [if_pos h3]; simp [nameByte, h3]
        · rw [if_neg h3]
          by_cases h4 : l[i] = 45
          · rw [if_pos ((byte45 _).2 h4)]; simp [nameByte, h4]
          · rw [if_neg (fun h => h4 ((byte45 _).1 h))]; simp [nameByte, letter_or, h1, h2, h3, h4]
theorem refValidF (l : List UInt8) (hl : l.length ≤ 1000000) (k : Nat) (hk : l.length + 2 ≤ k) : bulletinref09_ValidName.f k (mkS l) = some (validNameL l) := by
  have hs := mkS_size l
  obtain ⟨k, rfl⟩ : ∃ m, k = m + 1 := ⟨k - 1, by omega⟩
  unfold bulletinref09_ValidName.f
  cases l with
  | nil =>
    rw [if_pos (by rw [hs]; simp)]
    simp only [bulletinref09_ValidName.j0]
    rfl
  | cons c t =>
    have hlc : (c :: t).length = t.length + 1 := rfl
    rw [if_neg (by omega)]
    simp only [bulletinref09_ValidName.j0]
    by_cases h40 : (c :: t).length ≤ 40
    · rw [if_neg (by simp; omega)]
      obtain ⟨k, rfl⟩ : ∃ m, k = m + 1 := ⟨k - 1, by omega⟩
      simp only [bulletinref09_ValidName.l0]
      have hb := bt_mk (c :: t) 0 (by omega)
      rw [if_pos (by omega), if_pos (by omega), show (0 : Int) = ((0 : Nat) : Int) from rfl, hb, rLowF]
      have hw : wrap64 (((0 : Nat) : Int) + 1) = ((1 : Nat) : Int) := by unfold wrap64; omega
      rw [hw, refValidLoop (c :: t) hl _ k 1 rfl (by omega) (by omega) (by omega)]
      simp only [Option.bind_some, List.getElem_cons_zero, List.drop_one, List.tail_cons]
      by_cases h1 : lowU c = true
      · rw [if_pos h1]; simp [validNameL, nameByte, letter_or, h1]; omega
      · rw [if_neg h1, rUppF]
        simp only [Option.bind_some]
        by_cases h2 : uppU c = true
        · rw [if_pos h2]; simp [validNameL, nameByte, letter_or, h2]; omega
        · rw [if_neg h2, if_pos trivial]; simp [validNameL, letter_or, h1, h2]
    · rw [if_pos (by simp; omega)]
      have : decide ((c :: t).length ≤ 40) = false := decide_eq_false h40
      unfold validNameL; rw [this]; rfl
theorem field_ValidName_le (l : List UInt8) (hl : l.length ≤ 1000000) (k : Nat) (hk : l.length + 2 ≤ k) : field_ValidName.f k (mkS l) = some (validNameL l) := by
  obtain ⟨m, rfl⟩ : ∃ m, k = l.length + 2 + m := ⟨k - (l.length + 2), by omega⟩
  have h := validNameF l hl
  clear hk
  induction m with
  | zero => exact h
  | succ m ih => exact field_ValidName.mono _ _ _ ih

theorem mn_nat (a b : Nat) : mn (a : Int) (b : Int) = ((min a b : Nat) : Int) := by unfold mn; split <;> omega
end Go.Proofs.Ytfeciafdioepiaa

/- Plain: what the printed functions of the reference compute, for all large numbers of rounds: Words, Printable, Squeeze, Check, Fold. -/
namespace Go.Proofs.Ytfeciafdioepiaa
open Go.RowKit Go.Proofs Go.Proofs.YtfeciafdioepiaaW.PrintWords Go.Proofs.Ytfeciafdioepiaa.PA

/-- From some number of rounds on. -/
def Ev {α : Type} (f : Nat → Option α) (r : α) : Prop := ∃ K, ∀ k, K ≤ k → f k = some r
section
variable {α β : Type}
theorem Ev.const {o : Option α} {r : α} (h : o = some r) : Ev (fun _ => o) r := ⟨0, fun _ _ => h⟩
theorem Ev.bind {f : Nat → Option α} {g : Nat → α → Option β} {a : α} {r : β} (h : Ev f a) (k : Ev (fun n => g n a) r) : Ev (fun n => (f n).bind (g n)) r := by
  obtain ⟨K, h⟩ := h
  obtain ⟨K', k⟩ := k
  refine ⟨max K K', fun n hn => ?_⟩
  show (f n).bind (g n) = some r
  rw [h n (by omega), Option.bind_some]
  exact k n (by omega)
theorem Ev.ite_pos {c : Prop} [Decidable c] {f g : Nat → Option α} {r : α} (h : c) (k : Ev f r) : Ev (fun n => if c then f n else g n) r := by
  simpa [h] using k
theorem Ev.ite_neg {c : Prop} [Decidable c] {f g : Nat → Option α} {r : α} (h : ¬ c) (k : Ev g r) : Ev (fun n => if c then f n else g n) r := by
  simpa [h] using k
theorem Ev.next {f : Nat → Option α} {r : α} (h : Ev (fun n => f (n + 1)) r) : Ev f r := by
  obtain ⟨K, h⟩ := h
  refine ⟨K + 1, fun n hn => ?_⟩
  obtain ⟨m, rfl⟩ : ∃ m, n = m + 1 := ⟨n - 1, by omega⟩
  exact h m (by omega)
theorem Ev.is {f : Nat → Option α} {r r' : α} (h : Ev f r) (e : r = r') : Ev f r' := e ▸ h
theorem Ev.same {f g : Nat → Option α} {r : α} (h : Ev g r) (e : ∀ n, f n = g n) : Ev f r := by
  obtain ⟨K, h⟩ := h
  exact ⟨K, fun n hn => (e n).trans (h n hn)⟩
theorem Ev.rpos {c : Prop} [Decidable c] {f : Nat → Option α} {a b : α} (h : c) (k : Ev f a) : Ev f (if c then a else b) := by rw [if_pos h]; exact k
theorem Ev.rneg {c : Prop} [Decidable c] {f : Nat → Option α} {a b : α} (h : ¬ c) (k : Ev f b) : Ev f (if c then a else b) := by rw [if_neg h]; exact k
theorem Ev.at_ {f : Nat → Option α} {r : α} (h : Ev f r) : ∃ k, f k = some r := by
  obtain ⟨K, h⟩ := h
  exact ⟨K, h K (Nat.le_refl _)⟩
end

theorem rBlankF (c : UInt8) : bulletinref01_Blank.f (c.toNat : Int) = some (isBlank c) := by
  refine all_u8 (P := fun c => bulletinref01_Blank.f (c.toNat : Int) = some (isBlank c)) ?_ c
  decide +kernel
def visU (c : UInt8) : Bool := decide (33 ≤ c) && decide (c ≤ 126)
theorem rVisF (c : UInt8) : bulletinref01_Visible.f (c.toNat : Int) = some (visU c) := by
  refine all_u8 (P := fun c => bulletinref01_Visible.f (c.toNat : Int) = some (visU c)) ?_ c
  decide +kernel
theorem byte32 (c : UInt8) : ((c.toNat : Int) = 32) ↔ c = 32 := toNat_int c 32 (by omega)
theorem wrap_nat (i : Nat) (h : i < 100000000000000) : wrap64 ((i : Int) + 1) = ((i + 1 : Nat) : Int) := by unfold wrap64; omega

theorem wrap_add (a b : Nat) (h : a + b < 100000000000000) : wrap64 ((a : Int) + (b : Int)) = ((a + b : Nat) : Int) := by unfold wrap64; omega
theorem rd25 (l : List S25) (i : Nat) (h : i < l.length) : rd_T25 l (i : Int) = l[i] := by
  unfold rd_T25; rw [Int.toNat_natCast, List.getD_eq_getElem?_getD, List.getElem?_eq_getElem h]; rfl
theorem rd28 (l : List S28) (i : Nat) (h : i < l.length) : rd_T28 l (i : Int) = l[i] := by
  unfold rd_T28; rw [Int.toNat_natCast, List.getD_eq_getElem?_getD, List.getElem?_eq_getElem h]; rfl
/-! ### Words -/
theorem refWords_loop (l : List UInt8) (hl : l.length ≤ 1000000) : ∀ d i : Nat, l.length - i = d → i ≤ l.length → ∀ xs : List ByteArray, xs.length ≤ i →
    Ev (fun k => bulletinref01_Words.l0 k (mkS l) xs (-1) (i : Int)) (xs ++ (wordsGo (l.drop i) []).map mkS) ∧
    ∀ j, j < i → Ev (fun k => bulletinref01_Words.l0 k (mkS l) xs (j : Int) (i : Int)) (xs ++ (wordsGo (l.drop i) ((l.drop j).take (i - j))).map mkS) := by
  have hs := mkS_size l
  intro d
  induction d with
  | zero =>
    intro i hd hi xs hx
    have hie : i = l.length := by omega
    refine ⟨?_, fun j hj => ?_⟩
    · refine Ev.next ?_
      simp only [bulletinref01_Words.l0]
      refine Ev.ite_pos (by omega) (Ev.ite_neg (by omega) ?_)
      refine Ev.next ?_
      simp only [bulletinref01_Words.j1]
      refine Ev.ite_neg (by simp) (Ev.ite_neg (by omega) ?_)
      rw [wrap_nat i (by omega)]
      refine Ev.next ?_
      simp only [bulletinref01_Words.l0]
      refine Ev.ite_neg (by omega) (Ev.const ?_)
      rw [List.drop_eq_nil_of_le (by omega)]; simp [wordsGo]
    · refine Ev.next ?_
      simp only [bulletinref01_Words.l0]
      refine Ev.ite_pos (by omega) (Ev.ite_neg (by omega) ?_)
      refine Ev.next ?_
      simp only [bulletinref01_Words.j1]
      refine Ev.ite_neg (by simp) (Ev.ite_pos (by omega) (Ev.ite_pos (by omega) (Ev.ite_pos (by omega) (Ev.ite_pos (by omega) (Ev.ite_pos (by omega) ?_)))))
      rw [wrap_nat i (by omega), Int.toNat_natCast, Int.toNat_natCast, extract_mk, mkS_toList]
      refine Ev.next ?_
      simp only [bulletinref01_Words.l0]
      refine Ev.ite_neg (by omega) (Ev.const ?_)
      rw [List.drop_eq_nil_of_le (by omega : l.length ≤ i)]
      have : (l.drop j).take (i - j) ≠ [] := by
        intro h
        have := congrArg List.length h
        simp at this; omega
      simp [wordsGo, this]
  | succ d ih =>
    intro i hd hi xs hx
    have hlt : i < l.length := by omega
    have hdr : l.drop i = l[i] :: l.drop (i + 1) := List.drop_eq_getElem_cons hlt
    have hw := wrap_nat i (by omega)
    refine ⟨?_, fun j hj => ?_⟩
    · refine Ev.next ?_
      simp only [bulletinref01_Words.l0]
      refine Ev.ite_pos (by omega) (Ev.ite_pos (by omega) (Ev.ite_pos (by omega) ?_))
      rw [bt_mk l i hlt, rBlankF]
      simp only [Option.bind_some]
      refine Ev.next ?_
      simp only [bulletinref01_Words.j1, hw]
      rw [hdr]
      by_cases hb : isBlank l[i] = true
      · refine Ev.ite_neg (by simp [hb]) (Ev.ite_neg (by omega) ?_)
        refine (ih (i + 1) (by omega) (by omega) xs (by omega)).1.is ?_
        conv => rhs; unfold wordsGo
        rw [if_pos hb, if_pos rfl]
      · refine Ev.ite_pos (by simp [hb]) (Ev.ite_pos (by omega) ?_)
        refine ((ih (i + 1) (by omega) (by omega) xs (by omega)).2 i (by omega)).is ?_
        conv => rhs; unfold wordsGo
        rw [if_neg hb, hdr, show i + 1 - i = 1 by omega]; rfl
    · refine Ev.next ?_
      simp only [bulletinref01_Words.l0]
      refine Ev.ite_pos (by omega) (Ev.ite_pos (by omega) (Ev.ite_pos (by omega) ?_))
      rw [bt_mk l i hlt, rBlankF]
      simp only [Option.bind_some]
      refine Ev.next ?_
      simp only [bulletinref01_Words.j1, hw]
      rw [hdr]
      have hne : (l.drop j).take (i - j) ≠ [] := by
        intro h
        have := congrArg List.length h
        simp at this; omega
      by_cases hb : isBlank l[i] = true
      · refine Ev.ite_neg (by simp [hb]) (Ev.ite_pos (by omega) (Ev.ite_pos (by omega) (Ev.ite_pos (by omega) (Ev.ite_pos (by omega) (Ev.ite_pos (by omega) ?_)))))
        rw [Int.toNat_natCast, Int.toNat_natCast, extract_mk, mkS_toList]
        refine (ih (i + 1) (by omega) (by omega) (xs ++ [mkS ((l.drop j).take (i - j))]) (by simp; omega)).1.is ?_
        conv => rhs; unfold wordsGo
        rw [if_pos hb, if_neg hne]; simp
      · refine Ev.ite_pos (by simp [hb]) (Ev.ite_neg (by omega) ?_)
        refine ((ih (i + 1) (by omega) (by omega) xs (by omega)).2 j (by omega)).is ?_
        conv => rhs; unfold wordsGo
        rw [if_neg hb, show i + 1 - j = (i - j) + 1 by omega, List.take_add_one, List.getElem?_drop, show j + (i - j) = i by omega, List.getElem?_eq_getElem hlt]; rfl
theorem refWordsF (l : List UInt8) (hl : l.length ≤ 1000000) : Ev (fun k => bulletinref01_Words.f k (mkS l)) ((wordsL l).map mkS) := by
  have := (refWords_loop l hl _ 0 rfl (by omega) [] (by simp)).1
  exact this

/-! ### Printable -/
theorem refPrintable_loop (l : List UInt8) (hl : l.length ≤ 1000000) : ∀ d i : Nat, l.length - i = d → i ≤ l.length →
    Ev (fun k => bulletinref01_Printable.l0 k (mkS l) (i : Int)) (if spanA okPrint l i = l.length then -1 else (spanA okPrint l i : Int)) := by
  have hs := mkS_size l
  intro d
  induction d with
  | zero =>
    intro i hd hi
    refine Ev.next ?_
    simp only [bulletinref01_Printable.l0]
    refine Ev.ite_neg (by omega) (Ev.const ?_)
    rw [spanA_stop (by omega), if_pos (by omega)]
  | succ d ih =>
    intro i hd hi
    have hlt : i < l.length := by omega
    have hw := wrap_nat i (by omega)
    refine Ev.next ?_
    simp only [bulletinref01_Printable.l0]
    refine Ev.ite_pos (by omega) (Ev.ite_pos (by omega) ?_)
    rw [bt_mk l i hlt, rVisF, hw]
    simp only [Option.bind_some]
    by_cases h1 : visU l[i] = true
    · refine Ev.ite_pos h1 ((ih (i + 1) (by omega) (by omega)).is ?_)
      rw [spanA_yes (p := okPrint) hlt (by unfold okPrint; unfold visU at h1; rw [h1]; simp)]
    · refine Ev.ite_neg h1 ?_
      by_cases h2 : l[i] = 32
      · refine Ev.ite_pos ((byte32 _).2 h2) ((ih (i + 1) (by omega) (by omega)).is ?_)
        rw [spanA_yes (p := okPrint) hlt (by unfold okPrint; rw [h2]; simp)]
      · refine Ev.ite_neg (fun h => h2 ((byte32 _).1 h)) (Ev.const ?_)
        rw [spanA_no (p := okPrint) hlt (by unfold okPrint; unfold visU at h1; simp [h2]; simpa using h1), if_neg (by omega)]
theorem refPrintableF (l : List UInt8) (hl : l.length ≤ 1000000) : Ev (fun k => bulletinref01_Printable.f k (mkS l)) (printableZ l) := by
  refine (refPrintable_loop l hl _ 0 rfl (by omega)).is ?_
  have : spanA okPrint l 0 = spanL okPrint l := by unfold spanA; simp
  rw [this]; rfl

/-! ### Squeeze -/
theorem joinW_snoc (ws : List (List UInt8)) (x : List UInt8) (h : ws ≠ []) : joinW (ws ++ [x]) = joinW ws ++ ([32] ++ x) := by
  unfold joinW
  induction ws with
  | nil => exact absurd rfl h
  | cons a t ih =>
    cases t with
    | nil => simp [List.intercalate]
    | cons b t =>
      have := ih (by simp)
      simp only [List.cons_append] at this ⊢
      rw [List.intercalate_cons_cons, this, List.intercalate_cons_cons]
      simp
theorem rdOf_map (ws : List (List UInt8)) (i : Nat) (h : i < ws.length) : rdOf ByteArray.empty (ws.map mkS) (i : Int) = mkS ws[i] := by
  unfold rdOf; rw [Int.toNat_natCast, List.getD_eq_getElem?_getD, List.getElem?_map, List.getElem?_eq_getElem h]; rfl
theorem sumL_take (ws : List (List UInt8)) (i : Nat) : sumL (ws.take i) ≤ sumL ws := by
  conv => rhs; rw [← List.take_append_drop i ws]
  rw [sumL_append]; omega
theorem sumL_mem (ws : List (List UInt8)) (i : Nat) (h : i < ws.length) : ws[i].length ≤ sumL ws := by
  conv => rhs; rw [← List.take_append_drop i ws, List.drop_eq_getElem_cons h]
  rw [sumL_append]
  have : sumL (ws[i] :: ws.drop (i + 1)) = ws[i].length + sumL (ws.drop (i + 1)) := by unfold sumL; rw [List.map_cons, List.sum_cons]
  omega
theorem refSqueeze_loop (ws : List (List UInt8)) (hl : ws.length ≤ 1000000) (hs : sumL ws ≤ 1000000) : ∀ d i : Nat, ws.length - i = d → i ≤ ws.length →
    Ev (fun k => bulletinref01_Squeeze.l0 k (mkS (joinW (ws.take i))) (ws.map mkS) (i : Int)) (mkS (joinW ws)) := by
  intro d
  induction d with
  | zero =>
    intro i hd hi
    refine Ev.next ?_
    simp only [bulletinref01_Squeeze.l0, List.length_map]
    refine Ev.ite_neg (by omega) (Ev.const ?_)
    rw [List.take_of_length_le (by omega)]
  | succ d ih =>
    intro i hd hi
    have hlt : i < ws.length := by omega
    have hw := wrap_nat i (by omega)
    have h1 := joinW_len (ws.take i)
    have h2 := sumL_take ws i
    have h3 := sumL_mem ws i hlt
    simp only [List.length_take] at h1
    refine Ev.next ?_
    simp only [bulletinref01_Squeeze.l0, List.length_map]
    refine Ev.ite_pos (by omega) ?_
    rw [rdOf_map ws i hlt, hw]
    have hih := ih (i + 1) (by omega) (by omega)
    rw [List.take_succ_eq_append_getElem hlt] at hih
    by_cases h0 : i = 0
    · subst h0
      refine Ev.ite_neg (by simp) (Ev.ite_pos (by omega) (Ev.ite_pos (by rw [mkS_size, mkS_size]; omega) ?_))
      rw [mkS_append]
      simpa [joinW, List.intercalate] using hih
    · refine Ev.ite_pos (by omega) (Ev.ite_pos (by rw [mkS_size]; omega) (Ev.ite_pos (by omega) ?_))
      rw [mkS_one, mkS_append, mkS_append]
      have h4 : (joinW (List.take i ws)).length ≤ 3000000 := by omega
      have h5 : ws[i].length ≤ 3000000 := by omega
      have h6 : (mkS (joinW (List.take i ws) ++ [32])).size + (mkS ws[i]).size ≤ 9223372036854775807 := by
        rw [mkS_size, mkS_size, List.length_append, List.length_singleton]
        clear h1 h2 h3 hs hl; omega
      refine Ev.ite_pos h6 ?_
      rw [joinW_snoc _ _ (by intro h; have := congrArg List.length h; rw [List.length_take, List.length_nil] at this; omega)] at hih
      simpa using hih
theorem refSqueezeF (l : List UInt8) (hl : l.length ≤ 1000000) : Ev (fun k => bulletinref01_Squeeze.f k (mkS l)) (mkS (joinW (wordsL l))) := by
  unfold bulletinref01_Squeeze.f
  refine Ev.bind (refWordsF l hl) ?_
  have h1 := wordsL_len l
  have h2 := wordsL_sum l
  have := refSqueeze_loop (wordsL l) (by omega) (by omega) _ 0 rfl (by omega)
  simpa [joinW, List.intercalate, mkS_nil] using this
end Go.Proofs.Ytfeciafdioepiaa

/- Plain: Check and Fold of the program. -/
namespace Go.Proofs.Ytfeciafdioepiaa
open Go.RowKit Go.Proofs Go.Proofs.YtfeciafdioepiaaW.PrintWords Go.Proofs.Ytfeciafdioepiaa.PA

def longAny (b : List UInt8) : Bool := (wordsL b).any fun x => decide (900 < x.length)
def checkL (n b : List UInt8) : Int := if validNameL n = true then (if printableZ b ≥ 0 then 6 else if joinW (wordsL b) = b then (if 8192 < b.length then 5 else if longAny b = true then 5 else 0) else 3) else 12

theorem any_long (b : List UInt8) : ((wordsL b).map mkS).any (fun x => decide (900 < x.size)) = longAny b := by
  unfold longAny
  rw [List.any_map]
  congr 1

theorem wordsB_mk (b : List UInt8) : wordsB (mkS b) = (wordsL b).map mkS := by unfold wordsB; rw [mkS_toList]
theorem checkF (n b : List UInt8) (hn : n.length ≤ 1000000) (hb : b.length ≤ 1000000) : Ev (fun k => PB.field_Field_Check.f k (mkS n) (mkS b)) (checkL n b) := by
  have hbs := mkS_size b
  have h5 := wordsL_len b
  have h6 := wordsL_sum b
  unfold PB.field_Field_Check.f checkL
  refine Ev.bind (a := (wordsL b).map mkS) (Ev.const (by unfold GV.Words.f; rw [if_pos (by omega), wordsB_mk])) ?_
  refine Ev.bind ⟨n.length + 2, fun k hk => field_ValidName_le n hn k hk⟩ ?_
  by_cases h1 : validNameL n = true
  · refine Ev.rpos h1 ?_
    refine Ev.ite_pos h1 (Ev.bind (a := printableZ b) (Ev.const (by unfold GV.Printable.f; rw [if_pos (by omega), mkS_toList])) ?_)
    by_cases h2 : printableZ b ≥ 0
    · refine Ev.rpos h2 ?_; exact Ev.ite_pos h2 (Ev.const rfl)
    · refine Ev.rneg h2 ?_
      have hj : joinB ((wordsL b).map mkS) ⟨#[32]⟩ = mkS (joinW (wordsL b)) := joinB_mk _
      have hjl := joinW_len (wordsL b)
      have hJ : GV.Join.f ((wordsL b).map mkS) ⟨#[32]⟩ = some (mkS (joinW (wordsL b))) := by
        unfold GV.Join.f
        rw [hj, if_pos ⟨by rw [List.length_map]; omega, by rw [mkS_size]; omega⟩]
      refine Ev.ite_neg h2 (Ev.bind (Ev.const hJ) ?_)
      rw [toList_mk, toList_mk]
      by_cases h3 : joinW (wordsL b) = b
      · refine Ev.rpos h3 ?_
        refine Ev.ite_pos h3 ?_
        rw [mkS_size]
        by_cases h4 : 8192 < b.length
        · refine Ev.rpos h4 ?_; exact Ev.ite_pos (by omega) (Ev.const rfl)
        · refine Ev.rneg h4 ?_
          have hS : GV.someLong.f ((wordsL b).map mkS) (Value.func (.func 50) #[] #[]) = some (longAny b) := by
            unfold GV.someLong.f
            rw [if_pos ⟨by rw [List.length_map]; omega, rfl⟩, any_long]
          refine Ev.ite_neg (by omega) (Ev.bind (Ev.const hS) ?_)
          by_cases h7 : longAny b = true
          · refine Ev.rpos h7 ?_; exact Ev.ite_pos h7 (Ev.const rfl)
          · refine Ev.rneg h7 ?_; exact Ev.ite_neg h7 (Ev.const rfl)
      · refine Ev.rneg h3 ?_; exact Ev.ite_neg h3 (Ev.const rfl)
  · refine Ev.rneg h1 ?_; exact Ev.ite_neg h1 (Ev.const rfl)

theorem foldF (n b : List UInt8) (hn : n.length ≤ 1000000) (hb : b.length ≤ 1000000) : Ev (fun k => GV.Fold.f k (mkS n) (mkS b)) (if checkL n b = 0 then (mkS (foldL n b), 0) else (⟨#[]⟩, checkL n b)) := by
  unfold GV.Fold.f
  refine Ev.bind (checkF n b hn hb) ?_
  by_cases h : checkL n b = 0
  · refine Ev.rpos h ?_
    refine Ev.ite_pos h (Ev.ite_pos ⟨by rw [mkS_size]; exact hn, by rw [mkS_size]; exact hb⟩ (Ev.const ?_))
    rw [mkS_toList, mkS_toList]
  · refine Ev.rneg h ?_; exact Ev.ite_neg h (Ev.const rfl)

end Go.Proofs.Ytfeciafdioepiaa
