/- Merged texts: L1, H1, L2, H2, H3, H4, L3, H5, L4, H6, L5, H7, H8, L6, H9, H10 -/
import Derived.Test.YtfeciafdioepiaaGreatDoorHPsS2
import Derived.Lib.Index
import Derived.Lib.Join
set_option linter.unusedVariables false
set_option linter.unusedSimpArgs false
/- Plain lists: spans, words. No program in sight. -/
namespace Go.Proofs.YtfeciafdioepiaaGreatDoor

def isBlank (c : UInt8) : Bool := c == 32 || c == 9
def okPrint (c : UInt8) : Bool := c == 32 || (decide (33 ≤ c) && decide (c ≤ 126))
/-- How many bytes at the begin are of a class. -/
def spanL (p : UInt8 → Bool) : List UInt8 → Nat
  | [] => 0
  | c :: l => if p c then spanL p l + 1 else 0
theorem spanL_le (p : UInt8 → Bool) : ∀ l, spanL p l ≤ l.length
  | [] => by simp [spanL]
  | c :: l => by have := spanL_le p l; simp only [spanL]; split <;> simp <;> omega
/-- Where a class ends, from an offset on. -/
def spanA (p : UInt8 → Bool) (l : List UInt8) (i : Nat) : Nat := i + spanL p (l.drop i)
theorem spanA_stop {p : UInt8 → Bool} {l : List UInt8} {i : Nat} (h : l.length ≤ i) : spanA p l i = i := by
  unfold spanA; rw [List.drop_eq_nil_of_le h]; rfl
theorem spanA_no {p : UInt8 → Bool} {l : List UInt8} {i : Nat} (h : i < l.length) (hp : p l[i] = false) : spanA p l i = i := by
  unfold spanA; rw [List.drop_eq_getElem_cons h]; simp [spanL, hp]
theorem spanA_yes {p : UInt8 → Bool} {l : List UInt8} {i : Nat} (h : i < l.length) (hp : p l[i] = true) : spanA p l i = spanA p l (i + 1) := by
  unfold spanA; rw [List.drop_eq_getElem_cons h]; simp only [spanL, hp, if_true]; omega
theorem spanA_le {p : UInt8 → Bool} {l : List UInt8} {i : Nat} (h : i ≤ l.length) : i ≤ spanA p l i ∧ spanA p l i ≤ l.length := by
  unfold spanA; have := spanL_le p (l.drop i); simp at this; omega
theorem drop_spanL (p : UInt8 → Bool) : ∀ (l : List UInt8), ∀ c r, l.drop (spanL p l) = c :: r → p c = false
  | [], c, r, h => by simp [spanL] at h
  | d :: l, c, r, h => by
    unfold spanL at h
    by_cases hd : p d = true
    · rw [if_pos hd] at h
      exact drop_spanL p l c r h
    · rw [if_neg hd] at h
      simp at h
      rw [← h.1]; simpa using hd

/-- The words of a text: 'cur' is the word at hand. -/
def wordsGo : List UInt8 → List UInt8 → List (List UInt8)
  | [], cur => if cur = [] then [] else [cur]
  | c :: l, cur => if isBlank c then (if cur = [] then wordsGo l [] else cur :: wordsGo l []) else wordsGo l (cur ++ [c])
def wordsL (l : List UInt8) : List (List UInt8) := wordsGo l []

theorem wordsL_blank (l : List UInt8) : wordsL (l.drop (spanL isBlank l)) = wordsL l := by
  induction l with
  | nil => rfl
  | cons c l ih =>
    unfold spanL
    by_cases h : isBlank c = true
    · rw [if_pos h]; simp only [List.drop_succ_cons]; rw [ih]
      unfold wordsL; conv => rhs; unfold wordsGo
      rw [if_pos h, if_pos rfl]
    · rw [if_neg h]; rfl
theorem wordsGo_word (l : List UInt8) : ∀ cur, cur ≠ [] → wordsGo l cur = (cur ++ l.take (spanL (fun c => !isBlank c) l)) :: wordsL (l.drop (spanL (fun c => !isBlank c) l)) := by
  induction l with
  | nil => intro cur h; simp [wordsGo, spanL, h, wordsL]
  | cons c l ih =>
    intro cur h
    unfold wordsGo spanL
    by_cases hb : isBlank c = true
    · rw [if_pos hb, if_neg h]
      simp only [hb, Bool.not_true]
      rw [if_neg (by simp)]
      simp only [List.take_zero, List.append_nil, List.drop_zero]
      congr 1
      unfold wordsL; conv => rhs; unfold wordsGo
      rw [if_pos hb, if_pos rfl]
    · rw [if_neg hb]
      have hb' : isBlank c = false := by simpa using hb
      simp only [hb', Bool.not_false, if_true]
      rw [ih (cur ++ [c]) (by simp)]
      simp
theorem wordsL_word {c : UInt8} {l : List UInt8} (hb : isBlank c = false) :
    wordsL (c :: l) = (c :: l).take (spanL (fun c => !isBlank c) (c :: l)) :: wordsL ((c :: l).drop (spanL (fun c => !isBlank c) (c :: l))) := by
  have h1 : spanL (fun c => !isBlank c) (c :: l) = spanL (fun c => !isBlank c) l + 1 := by
    conv => lhs; unfold spanL
    simp [hb]
  rw [h1]
  unfold wordsL
  conv => lhs; unfold wordsGo
  rw [if_neg (by simp [hb]), List.nil_append, wordsGo_word l [c] (by simp)]
  rfl
/-- 'at' behind the blanks: the words from i on are the words from there on. -/
theorem words_at (l : List UInt8) (i : Nat) : wordsL (l.drop (spanA isBlank l i)) = wordsL (l.drop i) := by
  unfold spanA
  rw [← List.drop_drop, wordsL_blank]
theorem words_end {l : List UInt8} {i : Nat} (h : l.length ≤ i) : wordsL (l.drop i) = [] := by
  rw [List.drop_eq_nil_of_le h]; rfl
/-- A word begins at i. -/
theorem words_next {l : List UInt8} {i : Nat} (h : i < l.length) (hb : isBlank l[i] = false) :
    wordsL (l.drop i) = (l.drop i).take (spanA (fun c => !isBlank c) l i - i) :: wordsL (l.drop (spanA (fun c => !isBlank c) l i)) := by
  have e : spanA (fun c => !isBlank c) l i - i = spanL (fun c => !isBlank c) (l.drop i) := by unfold spanA; omega
  rw [e]
  have e2 : l.drop (spanA (fun c => !isBlank c) l i) = (l.drop i).drop (spanL (fun c => !isBlank c) (l.drop i)) := by unfold spanA; rw [List.drop_drop]
  rw [e2, List.drop_eq_getElem_cons h]
  exact wordsL_word hb
theorem spanA_pos {l : List UInt8} {i : Nat} (h : i < l.length) (hb : isBlank l[i] = false) : i < spanA (fun c => !isBlank c) l i := by
  rw [spanA_yes h (by simp [hb])]
  have := spanA_le (p := fun c => !isBlank c) (l := l) (i := i + 1) (by omega)
  omega
theorem blank_stops {l : List UInt8} {i : Nat} (h : spanA isBlank l i < l.length) : isBlank (l[spanA isBlank l i]) = false := by
  have hi : i ≤ l.length := by unfold spanA at h; omega
  have hd := drop_spanL isBlank (l.drop i) (l[spanA isBlank l i]) (l.drop (spanA isBlank l i + 1))
  apply hd
  rw [List.drop_drop, ← List.drop_eq_getElem_cons]
  rfl

theorem wordsGo_len (l : List UInt8) : ∀ cur, 2 * (wordsGo l cur).length ≤ l.length + (if cur = [] then 1 else 2) := by
  induction l with
  | nil => intro cur; unfold wordsGo; split <;> simp
  | cons c l ih =>
    intro cur
    unfold wordsGo
    by_cases hb : isBlank c = true
    · rw [if_pos hb]
      by_cases hc : cur = []
      · rw [if_pos hc, if_pos hc]; have := ih []; simp at this ⊢; omega
      · rw [if_neg hc, if_neg hc]; have := ih []; simp at this ⊢; omega
    · rw [if_neg hb]
      have := ih (cur ++ [c])
      rw [if_neg (by simp)] at this
      simp at this ⊢
      split <;> omega
theorem wordsL_len (l : List UInt8) : 2 * (wordsL l).length ≤ l.length + 1 := by
  have := wordsGo_len l []; rw [if_pos rfl] at this; exact this

/-- Lists of bytes as strings. -/
def mkS (l : List UInt8) : ByteArray := ⟨l.toArray⟩
@[simp] theorem mkS_toList (l : List UInt8) : (mkS l).data.toList = l := by simp [mkS]
theorem mkS_data (s : ByteArray) : mkS s.data.toList = s := by cases s; simp [mkS]
theorem mkS_size (l : List UInt8) : (mkS l).size = l.length := by simp [mkS, ByteArray.size]
theorem extract_mk (s : ByteArray) (a b : Nat) : s.extract a b = mkS ((s.data.toList.drop a).take (b - a)) := by
  cases s with
  | mk d =>
    apply ByteArray.ext
    simp only [mkS, ByteArray.data_extract]
    apply Array.toList_inj.1
    simp [List.take_drop]
end Go.Proofs.YtfeciafdioepiaaGreatDoor

/- The contracts of ascii's span, not, each, Words, Printable over this translation. -/
namespace Go.Proofs.YtfeciafdioepiaaGreatDoor
open Go.RowKit Go.Proofs Go.Proofs.YtfeciafdioepiaaGreatDoorW.PrintWords Go.Proofs.YtfeciafdioepiaaGreatDoor.PA

theorem toNat_int (c : UInt8) (n : Nat) (hn : n < 256) : ((c.toNat : Int) = n) ↔ c = n.toUInt8 := by
  constructor
  · intro h
    apply UInt8.toNat_inj.1
    have : c.toNat = n := by omega
    rw [this]; simp [Nat.toUInt8]; omega
  · intro h; subst h; simp [Nat.toUInt8]; omega

theorem blankF (c : UInt8) : ascii_IsBlank.f (c.toNat : Int) = some (isBlank c) := by
  unfold ascii_IsBlank.f isBlank
  by_cases h : c = 32
  · subst h; rfl
  · have h' : ¬ ((c.toNat : Int) = 32) := fun e => h ((toNat_int c 32 (by omega)).1 e)
    rw [if_neg h']
    have : (c == 32) = false := beq_eq_false_iff_ne.2 h
    rw [this, Bool.false_or]
    congr 1
    rw [Bool.eq_iff_iff]; simp only [beq_iff_eq]
    exact toNat_int c 9 (by omega)

theorem visF (c : UInt8) : ascii_IsVisible.f (c.toNat : Int) = some (decide (33 ≤ c) && decide (c ≤ 126)) := by
  unfold ascii_IsVisible.f
  have e1 : (33 ≤ c) ↔ (c.toNat : Int) ≥ 33 := by rw [UInt8.le_iff_toNat_le]; simp; omega
  have e2 : (c ≤ 126) ↔ (c.toNat : Int) ≤ 126 := by rw [UInt8.le_iff_toNat_le]; simp; omega
  by_cases h : (c.toNat : Int) ≥ 33
  · rw [if_pos h, decide_eq_true (e1.2 h), Bool.true_and]; congr 1; rw [Bool.eq_iff_iff]; simp only [decide_eq_true_eq]; exact e2.symm
  · rw [if_neg h, decide_eq_false (fun x => h (e1.1 x)), Bool.false_and]

set_option maxHeartbeats 1000000 in
set_option maxRecDepth 100000 in
/-- The function that 'not' makes, over IsBlank. -/
theorem notBlank_calls (c : UInt8) (q : Bool) (hq : (!isBlank c) = q) (b : Nat) (w : World) (hb : w.cell? ⟨b, 0, none⟩ = some (.func (.func 112) #[] #[])) :
    Calls Tryz.prog 146 #[.int .u8 c.toNat, .pointer (some ⟨b, 0, none⟩)] w fun e w' => e = .returned (.bool q) ∧ Drawn0 w w' := by
  have hf := blankF c
  have Hf := Lib.hid hf
  have HQ := Lib.hid hq
  clear hf hq
  go_enter Tryz.func146, Tryz.ntmps146
  go_wp2_with (go_at_call 112; refine (ascii_IsBlank.calls _ _ _ Hf.out).mono ?_; rintro e w' ⟨rfl, ⟨m, rfl⟩⟩)
  go_ret
  exact ⟨by rw [← HQ.out]; rfl, ⟨⟨m, rfl⟩⟩⟩

set_option maxHeartbeats 1000000 in
set_option maxRecDepth 100000 in
/-- Printable's own class. -/
theorem print1_calls (c : UInt8) (q : Bool) (hq : okPrint c = q) (w : World) :
    Calls Tryz.prog 137 #[.int .u8 c.toNat] w fun e w' => e = .returned (.bool q) ∧ Drawn0 w w' := by
  have hv := visF c
  by_cases h : c = 32
  · subst h
    have hq' : q = true := by rw [← hq]; rfl
    subst hq'
    clear hq
    go_enter Tryz.func137, Tryz.ntmps137
    go_wp2
    go_ret
    exact ⟨rfl, Drawn0.refl _⟩
  · have h1 : ((c.toNat : Int) == 32) = false := beq_eq_false_iff_ne.2 (fun e => h ((toNat_int c 32 (by omega)).1 e))
    have h2 : okPrint c = (decide (33 ≤ c) && decide (c ≤ 126)) := by unfold okPrint; rw [beq_eq_false_iff_ne.2 h, Bool.false_or]
    rw [hq] at h2
    have H2 := Lib.hid h2
    rw [← h2] at hv
    have Hv := Lib.hid hv
    generalize hg : (decide (33 ≤ c) && decide (c ≤ 126)) = g at *
    clear h h2 hg hq hv
    go_enter Tryz.func137, Tryz.ntmps137
    go_wp2_with (go_at_call 133; refine (ascii_IsVisible.calls _ _ _ Hv.out).mono ?_; rintro e w' ⟨rfl, ⟨m, rfl⟩⟩)
    go_ret
    exact ⟨by rw [H2.out]; rfl, ⟨⟨m, rfl⟩⟩⟩

set_option maxHeartbeats 1000000 in
set_option maxRecDepth 100000 in
theorem span_blank (s : ByteArray) (i : Int) (w : World) (hs : s.size ≤ 140737488355328) (h0 : 0 ≤ i) (h1 : i ≤ s.size) :
    Calls Tryz.prog 136 #[.string s, .int .i64 i, .func (.func 112) #[] #[]] w fun e w' => e = .returned (.int .i64 (spanA isBlank s.data.toList i.toNat)) ∧ Drawn0 w w' := by
  have hlen : s.data.toList.length = s.size := by simp
  have Hlen := Lib.hid hlen
  clear hlen
  go_enter Tryz.func136, Tryz.ntmps136
  go_wp2
  go_loopw [1] (fun v wr => ∃ k : Nat, k ≤ s.size ∧ v = .int .i64 k ∧ spanA isBlank s.data.toList k = spanA isBlank s.data.toList i.toNat ∧ Drawn0 w wr) (fun v _ => s.size - (intOf v).toNat)
  case atStart => exact ⟨i.toNat, by omega, by rw [Int.toNat_of_nonneg h0], rfl, Drawn0.refl _⟩
  case round =>
    obtain ⟨k, hk, rfl, he, ⟨n, rfl⟩⟩ := hrel
    have He := Lib.hid he
    clear he
    by_cases hlt : k < s.size
    · have hg : s.data.toList[k]'(by have := Hlen.out; omega) = s[k] := by rw [Array.getElem_toList]; rfl
      rcases Bool.eq_false_or_eq_true (isBlank s[k]) with hq | hq
      · have Hq := Lib.hid hq
        have hst := spanA_yes (p := isBlank) (l := s.data.toList) (i := k) (by have := Hlen.out; omega) (by rw [hg]; exact hq)
        have Hst := Lib.hid hst
        clear hst hq hg
        go_wp2_with (go_at_call 112; refine (ascii_IsBlank.calls _ true _ (by rw [blankF, Hq.out])).mono ?_; rintro e w' ⟨rfl, ⟨m, rfl⟩⟩)
        go_roundw
        case rel => exact ⟨k + 1, by omega, by go_num, by rw [← He.out, Hst.out], ⟨⟨n + m, rfl⟩⟩⟩
        case measure => simp [intOf]; omega
      · have Hq := Lib.hid hq
        have hst := spanA_no (p := isBlank) (l := s.data.toList) (i := k) (by have := Hlen.out; omega) (by rw [hg]; exact hq)
        have Hst := Lib.hid hst
        clear hst hq hg
        go_wp2_with (go_at_call 112; refine (ascii_IsBlank.calls _ false _ (by rw [blankF, Hq.out])).mono ?_; rintro e w' ⟨rfl, ⟨m, rfl⟩⟩)
        go_ret
        exact ⟨by rw [← He.out, Hst.out]; rfl, ⟨⟨n + m, rfl⟩⟩⟩
    · have hke := spanA_stop (p := isBlank) (l := s.data.toList) (i := k) (by have := Hlen.out; omega)
      have Hke := Lib.hid hke
      clear hke
      go_wp2
      go_ret
      exact ⟨by rw [← He.out, Hke.out]; rfl, ⟨⟨n, rfl⟩⟩⟩

set_option maxHeartbeats 1000000 in
set_option maxRecDepth 100000 in
theorem span_visible (s : ByteArray) (i : Int) (w : World) (hs : s.size ≤ 140737488355328) (h0 : 0 ≤ i) (h1 : i ≤ s.size) (b : Nat) (hb : w.cell? ⟨b, 0, none⟩ = some (.func (.func 112) #[] #[])) :
    Calls Tryz.prog 136 #[.string s, .int .i64 i, .func (.func 146) #[] #[.pointer (some ⟨b, 0, none⟩)]] w fun e w' => e = .returned (.int .i64 (spanA (fun c => !isBlank c) s.data.toList i.toNat)) ∧ Drawn0 w w' := by
  have hlen : s.data.toList.length = s.size := by simp
  have Hlen := Lib.hid hlen
  clear hlen
  go_enter Tryz.func136, Tryz.ntmps136
  go_wp2
  go_loopw [1] (fun v wr => ∃ k : Nat, k ≤ s.size ∧ v = .int .i64 k ∧ spanA (fun c => !isBlank c) s.data.toList k = spanA (fun c => !isBlank c) s.data.toList i.toNat ∧ Drawn0 w wr) (fun v _ => s.size - (intOf v).toNat)
  case atStart => exact ⟨i.toNat, by omega, by rw [Int.toNat_of_nonneg h0], rfl, Drawn0.refl _⟩
  case round =>
    obtain ⟨k, hk, rfl, he, ⟨n, rfl⟩⟩ := hrel
    have He := Lib.hid he
    clear he
    by_cases hlt : k < s.size
    · have hg : s.data.toList[k]'(by have := Hlen.out; omega) = s[k] := by rw [Array.getElem_toList]; rfl
      rcases Bool.eq_false_or_eq_true ((fun c => !isBlank c) s[k]) with hq | hq
      · have Hq := Lib.hid hq
        have hst := spanA_yes (p := (fun c => !isBlank c)) (l := s.data.toList) (i := k) (by have := Hlen.out; omega) (by rw [hg]; exact hq)
        have Hst := Lib.hid hst
        clear hst hq hg
        go_wp2_with (go_at_call 146; refine (notBlank_calls _ true Hq.out b (w.drewN n) hb).mono ?_; rintro e w' ⟨rfl, ⟨m, rfl⟩⟩)
        go_roundw
        case rel => exact ⟨k + 1, by omega, by go_num, by rw [← He.out, Hst.out], ⟨⟨n + m, rfl⟩⟩⟩
        case measure => simp [intOf]; omega
      · have Hq := Lib.hid hq
        have hst := spanA_no (p := (fun c => !isBlank c)) (l := s.data.toList) (i := k) (by have := Hlen.out; omega) (by rw [hg]; exact hq)
        have Hst := Lib.hid hst
        clear hst hq hg
        go_wp2_with (go_at_call 146; refine (notBlank_calls _ false Hq.out b (w.drewN n) hb).mono ?_; rintro e w' ⟨rfl, ⟨m, rfl⟩⟩)
        go_ret
        exact ⟨by rw [← He.out, Hst.out]; rfl, ⟨⟨n + m, rfl⟩⟩⟩
    · have hke := spanA_stop (p := (fun c => !isBlank c)) (l := s.data.toList) (i := k) (by have := Hlen.out; omega)
      have Hke := Lib.hid hke
      clear hke
      go_wp2
      go_ret
      exact ⟨by rw [← He.out, Hke.out]; rfl, ⟨⟨n, rfl⟩⟩⟩

set_option maxHeartbeats 1000000 in
set_option maxRecDepth 100000 in
theorem span_print (s : ByteArray) (i : Int) (w : World) (hs : s.size ≤ 140737488355328) (h0 : 0 ≤ i) (h1 : i ≤ s.size) :
    Calls Tryz.prog 136 #[.string s, .int .i64 i, .func (.func 137) #[] #[]] w fun e w' => e = .returned (.int .i64 (spanA okPrint s.data.toList i.toNat)) ∧ Drawn0 w w' := by
  have hlen : s.data.toList.length = s.size := by simp
  have Hlen := Lib.hid hlen
  clear hlen
  go_enter Tryz.func136, Tryz.ntmps136
  go_wp2
  go_loopw [1] (fun v wr => ∃ k : Nat, k ≤ s.size ∧ v = .int .i64 k ∧ spanA okPrint s.data.toList k = spanA okPrint s.data.toList i.toNat ∧ Drawn0 w wr) (fun v _ => s.size - (intOf v).toNat)
  case atStart => exact ⟨i.toNat, by omega, by rw [Int.toNat_of_nonneg h0], rfl, Drawn0.refl _⟩
  case round =>
    obtain ⟨k, hk, rfl, he, ⟨n, rfl⟩⟩ := hrel
    have He := Lib.hid he
    clear he
    by_cases hlt : k < s.size
    · have hg : s.data.toList[k]'(by have := Hlen.out; omega) = s[k] := by rw [Array.getElem_toList]; rfl
      rcases Bool.eq_false_or_eq_true (okPrint s[k]) with hq | hq
      · have Hq := Lib.hid hq
        have hst := spanA_yes (p := okPrint) (l := s.data.toList) (i := k) (by have := Hlen.out; omega) (by rw [hg]; exact hq)
        have Hst := Lib.hid hst
        clear hst hq hg
        go_wp2_with (go_at_call 137; refine (print1_calls _ true Hq.out _).mono ?_; rintro e w' ⟨rfl, ⟨m, rfl⟩⟩)
        go_roundw
        case rel => exact ⟨k + 1, by omega, by go_num, by rw [← He.out, Hst.out], ⟨⟨n + m, rfl⟩⟩⟩
        case measure => simp [intOf]; omega
      · have Hq := Lib.hid hq
        have hst := spanA_no (p := okPrint) (l := s.data.toList) (i := k) (by have := Hlen.out; omega) (by rw [hg]; exact hq)
        have Hst := Lib.hid hst
        clear hst hq hg
        go_wp2_with (go_at_call 137; refine (print1_calls _ false Hq.out _).mono ?_; rintro e w' ⟨rfl, ⟨m, rfl⟩⟩)
        go_ret
        exact ⟨by rw [← He.out, Hst.out]; rfl, ⟨⟨n + m, rfl⟩⟩⟩
    · have hke := spanA_stop (p := okPrint) (l := s.data.toList) (i := k) (by have := Hlen.out; omega)
      have Hke := Lib.hid hke
      clear hke
      go_wp2
      go_ret
      exact ⟨by rw [← He.out, Hke.out]; rfl, ⟨⟨n, rfl⟩⟩⟩

end Go.Proofs.YtfeciafdioepiaaGreatDoor

/- Plain: lower case. -/
namespace Go.Proofs.YtfeciafdioepiaaGreatDoor
theorem all_u8 {P : UInt8 → Prop} (h : ∀ n : Fin 256, P (UInt8.ofNat n.val)) (c : UInt8) : P c := by
  have := h ⟨c.toNat, c.toNat_lt⟩
  simpa using this
end Go.Proofs.YtfeciafdioepiaaGreatDoor

/- The contracts of ascii's not, each, Words, Printable over this translation. -/
namespace Go.Proofs.YtfeciafdioepiaaGreatDoor
open Go.RowKit Go.Proofs Go.Proofs.YtfeciafdioepiaaGreatDoorW.PrintWords Go.Proofs.YtfeciafdioepiaaGreatDoor.PA

theorem info9 : (Tryz.prog.info? 9).map (fun i => (i.zero, i.size, i.bytes)) = some (some (.string ⟨#[]⟩), 1, 16) := by kernel_rfl

set_option maxHeartbeats 1000000 in
set_option maxRecDepth 100000 in
/-- The function inside Words: it appends a word to the row in the box b. -/
theorem words1_calls (B b : Nat) (v : Value) (xs : List ByteArray) (x : ByteArray) (w : World) (hb : w.heap[b]? = some (.cells #[v] 51 (0, 0))) (hR : Kd.R Kd.string 9 w B (fun _ => True) v xs)
    (hBb : B ≤ b) (hBw : B ≤ w.heap.size) (hl : (xs.length + 1) * 16 ≤ 140737488355328) :
    Calls Tryz.prog 122 #[.string x, .pointer (some ⟨b, 0, none⟩)] w fun e w' => e = .returned (.tuple #[]) ∧ ∃ v', w'.heap[b]? = some (.cells #[v'] 51 (0, 0)) ∧ Kd.R Kd.string 9 w' B (fun _ => True) v' (xs ++ [x]) ∧ Below B w w' ∧ KeepBut w w' b v.ownBlock := by
  have hc := (blk_cell hb 0).trans rfl
  have HR := Aside0.mk hR
  have HBK := Aside0.mk hb
  clear hR hb
  go_enter Tryz.func122, Tryz.ntmps122
  go_wp2_with (at_builtin; refine Kd.R_append Kd.string (w0 := w) B rfl (.tmp 3) (.tmp 5) 51 9 (.string ⟨#[]⟩) 16 rfl Tryz.underlying51 info9 rfl (by decide) (by omega) v xs x [.string x] (fun _ => True) (fun _ => False) rfl rfl rfl (fun _ hk => hk.elim) (fun _ _ => trivial) HR.out (Below.refl _ _) hBw hl ?_)
  intro v1 w1 ho hbl hg _
  have hb1 : w1.heap[b]? = some (.cells #[v] 51 (0, 0)) := by
    refine blk_grown ?_ hg (Kd.R_ne HR.out HBK.out (by decide))
    exact HBK.out
  obtain ⟨A1, n1, c1, rfl⟩ : ∃ A n c, v1 = .slice A n c := by obtain ⟨A, c, h⟩ := Kd.R_slice ho; exact ⟨A, _, c, h⟩
  have hf1 := blk_frozen hb1 0
  have hc1 := (blk_cell hb1 0).trans rfl
  have HB1 := Aside0.mk hb1
  have HO := Aside0.mk ho
  have HBL := Aside0.mk hbl
  have HG := Aside0.mk hg
  clear hb1 ho hbl hg
  go_wp2
  go_end0
  refine ⟨rfl, _, (blk_set HB1.out 0 _).trans rfl, Kd.R_set HO.out HB1.out (by decide) 0 _, HBL.out.setCell (p := ⟨b, 0, none⟩) hBb _, (KeepBut.of_grown HG.out b).set_ 0 _⟩

/-- The words of a string. -/
def wordsB (s : ByteArray) : List ByteArray := (wordsL s.data.toList).map mkS
theorem wordsB_len (s : ByteArray) : 2 * (wordsB s).length ≤ s.size + 1 := by
  have := wordsL_len s.data.toList
  have h2 : s.data.toList.length = s.size := by simp
  unfold wordsB; rw [List.length_map]; omega

set_option maxHeartbeats 1000000 in
set_option maxRecDepth 100000 in
/-- each, over the function inside Words. -/
theorem each_words (s : ByteArray) (B b : Nat) (w : World) (hs : s.size ≤ 8796093022208) (hb : w.heap[b]? = some (.cells #[.slice none 0 0] 51 (0, 0))) (hBb : B ≤ b) (hBw : B ≤ w.heap.size) :
    Calls Tryz.prog 121 #[.string s, .func (.func 122) #[] #[.pointer (some ⟨b, 0, none⟩)]] w fun e w' => e = .returned (.tuple #[]) ∧ ∃ v', w'.heap[b]? = some (.cells #[v'] 51 (0, 0)) ∧ Kd.R Kd.string 9 w' B (fun _ => True) v' (wordsB s) ∧ Below B w w' := by
  have hmf : ∀ (fn : Fn) (first cap : Array Value) (w : World), (Instr.makeFunc fn first cap).run Tryz.prog w = .ok (.func fn first cap) w := fun _ _ _ _ => rfl
  have HBK := Aside0.mk hb
  have hlen : s.data.toList.length = s.size := by simp
  have Hlen := Lib.hid hlen
  clear hb hlen
  go_enter Tryz.func121, Tryz.ntmps121
  go_wp2_with (first | (go_at_call 136; refine (span_blank s 0 _ (by omega) (by omega) (by omega)).mono ?_; rintro e w1 ⟨rfl, ⟨n1, rfl⟩⟩) | (go_at_call 138; go_in))
  go_loopw [5] (fun v5 wr => ∃ (k : Nat) (v' : Value) (xs : List ByteArray), k ≤ s.size ∧ v5 = .int .i64 k ∧ (k < s.size → ∃ h : k < s.data.toList.length, isBlank s.data.toList[k] = false) ∧ Aside0 (xs ++ (wordsL (s.data.toList.drop k)).map mkS = wordsB s) ∧
      Aside0 (wr.heap[b]? = some (.cells #[v'] 51 (0, 0))) ∧ Aside0 (Kd.R Kd.string 9 wr B (fun _ => True) v' xs) ∧ Aside0 (Below B w wr) ∧ Aside0 (wr.heap[w.heap.size]? = some (.cells #[.func (.func 112) #[] #[]] 101 (0, 0)))) (fun v5 _ => s.size - (intOf v5).toNat)
  case atStart =>
    have hle := (spanA_le (p := isBlank) (l := s.data.toList) (i := 0) (by omega)).2
    refine ⟨spanA isBlank s.data.toList 0, .slice none 0 0, [], by have := Hlen.out; omega, rfl, fun h => ?_, ⟨?_⟩, ⟨blk_drewN (blk_alloc HBK.out _) _⟩, ⟨Kd.R_nil _ _ _ _ _⟩, ⟨pw_below_drewN ((Below.refl _ _).alloc hBw _) _⟩, ⟨blk_drewN (by simpa using heap_alloc_new w (.cells #[.func (.func 112) #[] #[]] 101)) _⟩⟩
    · have h' : spanA isBlank s.data.toList 0 < s.data.toList.length := by have := Hlen.out; omega
      exact ⟨h', blank_stops h'⟩
    · rw [words_at]; rfl
  case round =>
    obtain ⟨k, v', xs, hk, rfl, hnb, HE, HB, HR, HW, HX⟩ := hrel
    have Hnb := Lib.hid hnb
    clear hnb
    by_cases hlt : k < s.size
    · obtain ⟨hk', hbl⟩ := Hnb.out hlt
      have hsp := spanA_le (p := fun c => !isBlank c) (l := s.data.toList) (i := k) (by omega)
      have hps := spanA_pos hk' hbl
      have hw := words_next hk' hbl
      generalize he : spanA (fun c => !isBlank c) s.data.toList k = q at *
      have hq : q ≤ s.size := by have := Hlen.out; omega
      have He := Lib.hid he
      have Hw := Lib.hid hw
      have Hbl := Lib.hid hbl
      have hx := (blk_cell HX.out 0).trans rfl
      obtain ⟨_, hsp2⟩ := hsp
      have Hsp2 := Lib.hid hsp2
      clear he hw hbl hsp2
      go_wp2_with fail
      refine (span_visible s k _ (by omega) (by omega) (by omega) w.heap.size hx).mono ?_
      rintro e w1 ⟨rfl, ⟨n1, rfl⟩⟩
      rw [Int.toNat_natCast, He.out]
      clear hx
      have hl2 := wordsB_len s
      have hE := HE.out
      rw [Hw.out, List.map_cons] at hE
      have hxl : xs.length + 1 ≤ (wordsB s).length := by rw [← hE]; simp
      have HE2 : Hid (xs ++ [s.extract k q] ++ (wordsL (s.data.toList.drop q)).map mkS = wordsB s) := by
        rw [extract_mk, ← hE]
        show (xs ++ [_]) ++ _ = xs ++ (_ :: _)
        rw [List.append_assoc]; rfl
      clear hE
      go_wp2_with fail
      refine (words1_calls B b v' xs (s.extract k q) _ (blk_drewN HB.out n1) (Kd.R_drewN HR.out n1) hBb (Nat.le_trans hBw (pw_below_drewN HW.out n1).size) (by omega)).mono ?_
      rintro e w2 ⟨rfl, v2, hb2, hR2, hW2, hK2⟩
      have hX2 := hK2.blk (blk_drewN HX.out n1) (blk_ne (blk_drewN HX.out n1) (blk_drewN HB.out n1) (by decide)) (Kd.R_ne (Kd.R_drewN HR.out n1) (blk_drewN HX.out n1) (by decide))
      have HB2 := Aside0.mk hb2
      have HR2 := Aside0.mk hR2
      have HW2 := Aside0.mk ((pw_below_drewN HW.out n1).trans hW2)
      have HX2 := Aside0.mk hX2
      clear hb2 hR2 hW2 hK2 hX2 HB HR HW HX HE
      go_wp2_with fail
      refine (span_blank s q _ (by omega) (by omega) (by omega)).mono ?_
      rintro e w3 ⟨rfl, ⟨n3, rfl⟩⟩
      rw [Int.toNat_natCast]
      have hsb := spanA_le (p := isBlank) (l := s.data.toList) (i := q) Hsp2.out
      have hwa := words_at s.data.toList q
      have hst := blank_stops (l := s.data.toList) (i := q)
      generalize hr : spanA isBlank s.data.toList q = r at *
      have Hst := Lib.hid hst
      have Hwa := Lib.hid hwa
      obtain ⟨hsb1, hsb2⟩ := hsb
      have hr2 : r ≤ s.size := by have := Hlen.out; omega
      clear hst hwa hr hsb2
      go_wp2
      go_roundw
      case rel =>
        refine ⟨r, v2, _, hr2, rfl, fun h => ?_, ⟨?_⟩, ⟨blk_drewN HB2.out n3⟩, ⟨Kd.R_drewN HR2.out n3⟩, ⟨pw_below_drewN HW2.out n3⟩, ⟨blk_drewN HX2.out n3⟩⟩
        · have h' : r < s.data.toList.length := by have := Hlen.out; omega
          exact ⟨h', Hst.out h'⟩
        · rw [Hwa.out]; exact HE2.out
      case measure => simp [intOf]; omega
    · have hke := words_end (l := s.data.toList) (i := k) (by have := Hlen.out; omega)
      have Hke := Lib.hid hke
      clear hke
      go_wp2
      go_end0
      have hE := HE.out
      rw [Hke.out] at hE
      simp at hE
      subst hE
      exact ⟨rfl, v', HB.out, HR.out, HW.out⟩

set_option maxHeartbeats 1000000 in
set_option maxRecDepth 100000 in
theorem ascii_Words.calls (s : ByteArray) (w : World) (hs : s.size ≤ 8796093022208) :
    Calls Tryz.prog 90 #[.string s] w fun e w' => ∃ v0_ : Value, e = .returned v0_ ∧ Kd.R Kd.string 9 w' w.heap.size (fun _ => True) v0_ (wordsB s) ∧ Below w.heap.size w w' := by
  have hmf : ∀ (fn : Fn) (first cap : Array Value) (w : World), (Instr.makeFunc fn first cap).run Tryz.prog w = .ok (.func fn first cap) w := fun _ _ _ _ => rfl
  go_enter Tryz.func90, Tryz.ntmps90
  go_wp2_with fail
  refine (each_words s w.heap.size w.heap.size (w.alloc (.cells #[.slice none 0 0] 51)) hs (by simpa using heap_alloc_new w (.cells #[.slice none 0 0] 51)) (Nat.le_refl _) (by simp)).mono ?_
  rintro e w1 ⟨rfl, v1, hb1, hR1, hW1⟩
  have hc1 := (blk_cell hb1 0).trans rfl
  have HR1 := Aside0.mk hR1
  have HW1 := Aside0.mk hW1
  clear hb1 hR1 hW1
  go_wp2
  go_ret
  exact ⟨_, rfl, HR1.out, ((Below.refl _ w).alloc (Nat.le_refl _) _).trans HW1.out⟩

end Go.Proofs.YtfeciafdioepiaaGreatDoor

/- The contracts of Printable, Join, some, IndexByte, Compare and the two Lower over this translation. -/
namespace Go.Proofs.YtfeciafdioepiaaGreatDoor
open Go.RowKit Go.Proofs Go.Proofs.YtfeciafdioepiaaGreatDoorW.PrintWords Go.Proofs.YtfeciafdioepiaaGreatDoor.PA

theorem retI {k : IntKind} {a b : Int} (h : a = b) : Ending.returned (.int k a) = .returned (.int k b) := by rw [h]

/-- The offset of the first byte that is neither visible nor a space, or -1. -/
def printableZ (l : List UInt8) : Int := if spanL okPrint l = l.length then -1 else spanL okPrint l

set_option maxHeartbeats 1000000 in
set_option maxRecDepth 100000 in
theorem printable_any (s : ByteArray) (w : World) (hs : s.size ≤ 140737488355328) :
    Calls Tryz.prog 117 #[.string s] w fun e w' => e = .returned (.int .i64 (printableZ s.data.toList)) ∧ Drawn0 w w' := by
  have hlen : s.data.toList.length = s.size := by simp
  have hsp := spanL_le okPrint s.data.toList
  have h0 : spanA okPrint s.data.toList 0 = spanL okPrint s.data.toList := by unfold spanA; simp
  have Hlen := Lib.hid hlen
  rw [hlen] at hsp
  generalize hq : spanL okPrint s.data.toList = q at *
  have Hq := Lib.hid hq
  have H0 := Lib.hid h0
  clear hlen h0 hq
  by_cases h : q = s.size
  · have hb : ((q : Int) == (s.size : Int)) = true := beq_iff_eq.2 (by omega)
    have Hh := Lib.hid h
    clear h
    go_enter Tryz.func117, Tryz.ntmps117
    go_wp2_with fail
    refine (span_print s 0 _ hs (by omega) (by omega)).mono ?_
    rintro e w1 ⟨rfl, ⟨n1, rfl⟩⟩
    rw [show (0 : Int).toNat = 0 from rfl, H0.out]
    go_wp2
    go_ret
    exact ⟨retI (by unfold printableZ; rw [if_pos (by rw [Hq.out, Hlen.out]; exact Hh.out)]), ⟨⟨n1, rfl⟩⟩⟩
  · have hb : ((q : Int) == (s.size : Int)) = false := beq_eq_false_iff_ne.2 (by omega)
    have Hh := Lib.hid h
    clear h
    go_enter Tryz.func117, Tryz.ntmps117
    go_wp2_with fail
    refine (span_print s 0 _ hs (by omega) (by omega)).mono ?_
    rintro e w1 ⟨rfl, ⟨n1, rfl⟩⟩
    rw [show (0 : Int).toNat = 0 from rfl, H0.out]
    go_wp2
    go_ret
    exact ⟨retI (by unfold printableZ; rw [if_neg (by rw [Hq.out, Hlen.out]; exact Hh.out), Hq.out]), ⟨⟨n1, rfl⟩⟩⟩

/-- The elements, joined. -/
def joinB (xs : List ByteArray) (sep : ByteArray) : ByteArray := mkS (Lib.join (xs.map (·.data.toList)) sep.data.toList)

theorem join_any (A : Option Addr) (c : Nat) (xs : List ByteArray) (sep : ByteArray) (w : World) (hr : Kd.C Kd.string w A xs.length xs) (hc : xs.length ≤ c) (hN : xs.length ≤ 140737488355328) (hl : (joinB xs sep).size ≤ 140737488355328) :
    Calls Tryz.prog 118 #[.slice A xs.length c, .string sep] w fun e w' => e = .returned (.string (joinB xs sep)) ∧ Below w.heap.size w w' := by
  rcases Nat.eq_zero_or_pos xs.length with h0 | h0
  · obtain rfl : xs = [] := List.eq_nil_of_length_eq_zero h0
    refine (Tryz.strings_Join_none A c sep w).mono ?_
    rintro e w' ⟨rfl, rfl⟩
    exact ⟨rfl, Below.refl _ _⟩
  · obtain ⟨ad, rfl, hcell⟩ := hr.2.2 h0
    have hget : ∀ j x, xs[j]? = some x → w.cell? (ad.add j) = some (.string x) := by
      intro j x hj
      obtain ⟨cs, _, hK, hcl⟩ := hcell j x hj
      have hK' : cs = [.string x] := hK
      have := hcl 0 (.string x) (by rw [hK']; rfl)
      simpa [Kd.string, Kd.scalar] using this
    have h00 := hget 0 xs[0] (List.getElem?_eq_getElem h0)
    have hsp : ad.spot = none := by
      have : (ad.add 0) = ad := by simp [Addr.add]
      rw [this] at h00
      unfold World.cell? at h00
      split at h00
      · split at h00
        · cases h00
        · rename_i h; simpa using h
      · cases h00
    obtain ⟨bk, o, sp⟩ := ad
    simp only at hsp
    subst hsp
    have hadd : ∀ j, (⟨bk, o, none⟩ : Addr).add j = ⟨bk, o + j, none⟩ := fun j => by unfold Addr.add; split <;> simp_all
    refine (Tryz.strings_Join bk o c xs sep w (fun j x hj => by rw [← hadd]; exact hget j x hj) (World.block_lt_of_cell? w (Addr.add ⟨bk, o, none⟩ 0) h00) hN hc (by rw [joinB, mkS_size] at hl; exact hl)).mono ?_
    rintro e w' ⟨rfl, h⟩
    exact ⟨rfl, h⟩

theorem longF (x : ByteArray) : field_long.f x = some (decide (900 < x.size)) := by
  unfold field_long.f; congr 1; rw [Bool.eq_iff_iff]; simp; omega

set_option maxHeartbeats 1000000 in
set_option maxRecDepth 100000 in
/-- some, over long: is a word too long? -/
theorem some_long (A : Option Addr) (c : Nat) (xs : List ByteArray) (w : World) (hr : Kd.C Kd.string w A xs.length xs) (hc : xs.length ≤ c) (hN : xs.length ≤ 140737488355328) :
    Calls Tryz.prog 119 #[.slice A xs.length c, .func (.func 120) #[] #[]] w fun e w' => e = .returned (.bool (xs.any fun x => decide (900 < x.size))) ∧ Drawn0 w w' := by
  have HR := Aside0.mk hr
  have HC := Aside0.mk hc
  generalize hn : xs.length = n at *
  have HN := Lib.hid hn
  clear hr hc hn
  go_enter Tryz.func119, Tryz.ntmps119
  go_wp2
  go_loopw [9] (fun v9 wr => ∃ k : Nat, k ≤ n ∧ v9 = .int .i64 k ∧ Aside0 ((xs.take k).any (fun x => decide (900 < x.size)) = false) ∧ Drawn0 w wr) (fun v9 _ => n - (intOf v9).toNat)
  case atStart => exact ⟨0, Nat.zero_le _, rfl, ⟨by simp⟩, Drawn0.refl _⟩
  case round =>
    obtain ⟨k, hk, rfl, HE, ⟨m, rfl⟩⟩ := hrel
    by_cases hlt : k < n
    · obtain ⟨ad, hA, hx0⟩ := Kd.at_string HR.out k (by omega) (by omega)
      have hx : (w.drewN m).cell? (ad.add k) = some (.string (rdOf ByteArray.empty xs k)) := hx0
      clear hx0
      subst hA
      have hget : rdOf ByteArray.empty xs (k : Int) = xs[k]'(by have := HN.out; omega) := by
        unfold rdOf; rw [Int.toNat_natCast, List.getD_eq_getElem?_getD, List.getElem?_eq_getElem (by have := HN.out; omega)]; rfl
      generalize hq : rdOf ByteArray.empty xs (k : Int) = x at *
      have hst : (xs.take (k + 1)).any (fun x => decide (900 < x.size)) = decide (900 < x.size) := by
        rw [List.take_succ_eq_append_getElem (by have := HN.out; omega), List.any_append, HE.out, ← hget]; simp
      have hall : decide (900 < x.size) = true → xs.any (fun x => decide (900 < x.size)) = true := by
        intro h
        rw [List.any_eq_true]
        exact ⟨x, by rw [hget]; exact List.getElem_mem _, h⟩
      have Hst := Lib.hid hst
      have Hall := Lib.hid hall
      clear hget hq hst hall
      rcases Bool.eq_false_or_eq_true (decide (900 < x.size)) with hb | hb
      · have Hb := Lib.hid hb
        clear hb
        go_wp2_with (go_at_call 120; refine (field_long.calls x true _ (by rw [longF, Hb.out])).mono ?_; rintro e w' ⟨rfl, ⟨m2, rfl⟩⟩)
        go_ret
        exact ⟨by rw [Hall.out Hb.out]; rfl, ⟨⟨m + m2, rfl⟩⟩⟩
      · have Hb := Lib.hid hb
        clear hb
        go_wp2_with (go_at_call 120; refine (field_long.calls x false _ (by rw [longF, Hb.out])).mono ?_; rintro e w' ⟨rfl, ⟨m2, rfl⟩⟩)
        go_roundw
        case rel => exact ⟨k + 1, by omega, by go_num, ⟨by rw [Hst.out, Hb.out]⟩, ⟨⟨m + m2, rfl⟩⟩⟩
        case measure => simp [intOf]; omega
    · go_wp2
      go_ret
      have hE := HE.out
      rw [List.take_of_length_le (by have := HN.out; omega)] at hE
      exact ⟨by rw [hE]; rfl, ⟨⟨m, rfl⟩⟩⟩

end Go.Proofs.YtfeciafdioepiaaGreatDoor

/- The contracts of the two Lower over this translation. -/
namespace Go.Proofs.YtfeciafdioepiaaGreatDoor
open Go.RowKit Go.Proofs Go.Proofs.YtfeciafdioepiaaGreatDoorW.PrintWords Go.Proofs.YtfeciafdioepiaaGreatDoor.PA

/-- A row of bytes in block b. -/
structure BufAt (w : World) (b : Nat) (l : List UInt8) : Prop where
  lt : b < w.heap.size
  cell : ∀ j, j < l.length → w.cell? ⟨b, j, none⟩ = some (.int .u8 ((l.getD j 0).toNat : Int))
  free : ∀ j, j < l.length → w.frozen? ⟨b, j, none⟩ = false
theorem BufAt.drewN {w : World} {b : Nat} {l : List UInt8} (h : BufAt w b l) (n : Nat) : BufAt (w.drewN n) b l := ⟨h.lt, h.cell, h.free⟩
theorem BufAt.made (w : World) (s : ByteArray) : BufAt (Lib.bytesWorld w 5 s) w.heap.size s.data.toList := by
  have hlen : s.data.toList.length = s.size := by simp
  refine ⟨by rw [Lib.bytesWorld_size]; omega, fun j hj => by rw [Lib.bytesWorld_cell _ _ _ _ (by omega)], fun j hj => ?_⟩
  unfold World.frozen?
  rw [Lib.bytesWorld_at_new]
  have : s.size ≤ (Lib.bytesCells w 5 s).size := by simp [Lib.bytesCells]
  simp; omega
theorem BufAt.set {w : World} {b : Nat} {l : List UInt8} (h : BufAt w b l) {k : Nat} (hk : k < l.length) (c : UInt8) : BufAt (w.setCell ⟨b, k, none⟩ (.int .u8 (c.toNat : Int))) b (l.set k c) := by
  refine ⟨by simpa [World.setCell] using h.lt, fun j hj => ?_, fun j hj => ?_⟩
  · rw [List.length_set] at hj
    by_cases e : k = j
    · subst e
      rw [World.cell?_setCell_same _ _ _ (h.cell k hk)]
      simp [List.getD_eq_getElem?_getD, hj]
    · rw [World.cell?_setCell_other _ _ _ _ (by simp [e]), h.cell j hj]
      simp [List.getD_eq_getElem?_getD, List.getElem?_set_ne e]
  · rw [World.frozen?_setCell]; exact h.free j (by simpa using hj)
theorem BufAt.string {w : World} {b : Nat} {l : List UInt8} (h : BufAt w b l) (hm : l.length ≤ 9223372036854775807) (c : Nat) :
    (convert 44 9 (.slice (some ⟨b, 0, none⟩) l.length c)).run Tryz.prog w = .ok (.string (mkS l)) w := by
  have hr : ReadsInt w .u8 (some ⟨b, 0, none⟩) l.length (l.map fun c => (c.toNat : Int)) := by
    refine ⟨by simp, hm, fun _ => ⟨_, rfl, fun j hj => ?_⟩⟩
    rw [add_plain, h.cell j hj]
    simp [List.getD_eq_getElem?_getD, hj]
  rw [string_of_reads (P := Tryz.prog) (src := 44) (dst := 9) (e := 5) Tryz.underlying44 Tryz.underlying5 Tryz.underlying9 hr]
  congr 2
  unfold strOfNums mkS
  congr 2
  rw [List.map_map]
  conv => rhs; rw [← List.map_id l]
  apply List.map_congr_left
  intro c _
  simp

end Go.Proofs.YtfeciafdioepiaaGreatDoor

/- Plain: the parser of package field as a function on lists; no program in sight. -/
namespace Go.Proofs.YtfeciafdioepiaaGreatDoor

/-- A field: name and body. -/
structure Fld where
  name : List UInt8
  body : List UInt8
  deriving DecidableEq
/-- What the parser remembers. -/
structure PSt where
  pos : Nat
  fs : List Fld
  place : Int
  failed : Int
def failP (s : PSt) (p e : Int) : PSt := if s.failed = 0 then { s with place := p, failed := e } else s
def okByte (c : UInt8) : Bool := (decide (33 ≤ c) && decide (c ≤ 126)) || isBlank c
def notNl (c : UInt8) : Bool := !(c == 10)
def notColon (c : UInt8) : Bool := !(c == 58)
/-- 'line': the line, and what is noted. -/
def lineP (text : List UInt8) (s : PSt) : List UInt8 × PSt :=
  let rest := text.drop s.pos
  let n := spanL notNl rest
  if n = rest.length then ([], failP s text.length 4)
  else
    let l := rest.take n
    let s1 := if 998 < n then failP s (s.pos + 998) 5 else s
    let b := spanL okByte l
    (l, if b < n then failP s1 (s.pos + b) 6 else s1)
/-- The words of a part of a line, from an index on: the first that is too long is noted. -/
def wordsP (s : PSt) (line : List UInt8) : Nat → List (List UInt8) → PSt
  | _, [] => s
  | i, w :: ws =>
    let i1 := spanA isBlank line i
    wordsP (if 900 < w.length then failP s (s.pos + i1) 5 else s) line (i1 + w.length) ws
def joinW (ws : List (List UInt8)) : List UInt8 := [32].intercalate ws
def setBody (fs : List Fld) (b : List UInt8) : List Fld := match fs.getLast? with
  | some f => fs.dropLast ++ [{ f with body := b }]
  | none => fs
def lastBody (fs : List Fld) : List UInt8 := match fs.getLast? with
  | some f => f.body
  | none => []
def bodyP (s : PSt) (line : List UInt8) (from_ : Nat) : PSt :=
  let ws := wordsL (line.drop from_)
  let s1 := wordsP s line from_ ws
  let b := joinW (wordsL (lastBody s.fs) ++ ws)
  let s2 := { s1 with fs := setBody s1.fs b }
  if 8192 < b.length then failP s2 s.pos 5 else s2
end Go.Proofs.YtfeciafdioepiaaGreatDoor

/- The contracts of the parser's methods over this translation: fail, line. -/
namespace Go.Proofs.YtfeciafdioepiaaGreatDoor
open Go.RowKit Go.Proofs Go.Proofs.YtfeciafdioepiaaGreatDoorW.PrintWords Go.Proofs.YtfeciafdioepiaaGreatDoor.PA

def toS (f : Fld) : PA.S76 := ⟨mkS f.name, mkS f.body⟩
/-- A parser in block g, its fields' row one of the call's own (from B on). -/
def Pst (B g : Nat) (v : Value) (w : World) (text : List UInt8) (s : PSt) : Prop :=
  B ≤ g ∧ w.heap[g]? = some (.cells #[.string (mkS text), .int .i64 s.pos, v, .int .i64 s.place, .int .i64 s.failed] 125 (0, 0)) ∧ Kd.R k76 76 w B (fun _ => True) v (s.fs.map toS)
theorem Pst.drewN {B g : Nat} {v : Value} {w : World} {text : List UInt8} {s : PSt} (h : Pst B g v w text s) (n : Nat) : Pst B g v (w.drewN n) text s := by
  obtain ⟨hB, hb, hR⟩ := h
  exact ⟨hB, blk_drewN hb n, Kd.R_drewN hR n⟩
theorem Pst.below {B g : Nat} {v : Value} {w w1 : World} {text : List UInt8} {s : PSt} (h : Pst B g v w text s) (hb : Below w.heap.size w w1) : Pst B g v w1 text s := by
  obtain ⟨hB, hk, hR⟩ := h
  exact ⟨hB, blk_below hk hb, Kd.R_below hR hb⟩
theorem drawn_of_drewN (w : World) (n : Nat) : Drawn0 w (w.drewN n) := ⟨⟨n, rfl⟩⟩

set_option maxHeartbeats 1000000 in
set_option maxRecDepth 100000 in
theorem fail_any (B g : Nat) (v : Value) (text : List UInt8) (s : PSt) (p e : Int) (w : World) (h : Pst B g v w text s) :
    Calls Tryz.prog 114 #[.pointer (some ⟨g, 0, none⟩), .int .i64 p, .int .i64 e] w fun e' w' => e' = .returned (.tuple #[]) ∧ Pst B g v w' text (failP s p e) ∧ Below B w w' ∧ KeepBut w w' g none := by
  obtain ⟨hB, hb, hR⟩ := h
  have hc4 := (blk_cell hb 4).trans rfl
  have hf3 := blk_frozen hb 3
  have hf4 := blk_frozen hb 4
  have hc3 := (blk_cell hb 3).trans rfl
  have HB := Aside0.mk hb
  have HR := Aside0.mk hR
  obtain ⟨pos, fs, place, failed⟩ := s
  simp only at hc4 hc3 HB HR
  by_cases hz : failed = 0
  · subst hz
    clear hb hR
    go_enter Tryz.func114, Tryz.ntmps114
    go_wp2
    go_end0
    have hs1 := (blk_set HB.out 3 (.int .i64 p)).trans rfl
    have hs2 := (blk_set hs1 4 (.int .i64 e)).trans rfl
    have r1 := Kd.R_set HR.out HB.out (by decide) 3 (.int .i64 p)
    have r2 := Kd.R_set r1 hs1 (by decide) 4 (.int .i64 e)
    refine ⟨rfl, ⟨hB, ?_, ?_⟩, ?_, ((KeepBut.refl w g none).set_ 3 _).set_ 4 _⟩
    · exact hs2
    · exact r2
    · exact ((Below.refl B w).setCell (p := ⟨g, 3, none⟩) hB _).setCell (p := ⟨g, 4, none⟩) hB _
  · have hz' : (failed == 0) = false := beq_eq_false_iff_ne.2 hz
    have Hz := Lib.hid hz
    clear hb hR hz
    go_enter Tryz.func114, Tryz.ntmps114
    go_wp2
    go_end0
    refine ⟨rfl, ?_, Below.refl _ _, KeepBut.refl _ _ _⟩
    unfold failP
    rw [if_neg Hz.out]
    exact ⟨hB, HB.out, HR.out⟩

theorem indexByte_span (c : UInt8) (l : List UInt8) : Lib.indexByte l c = if spanL (fun b => !(b == c)) l = l.length then -1 else (spanL (fun b => !(b == c)) l : Int) := by
  induction l with
  | nil => simp [Lib.indexByte, spanL]
  | cons b l ih =>
    unfold Lib.indexByte
    have hle := spanL_le (fun b => !(b == c)) l
    by_cases h : (b == c) = true
    · rw [if_pos h]; simp [spanL, h]
    · rw [if_neg h, ih]
      have h' : (b == c) = false := by simpa using h
      simp only [spanL, h', Bool.not_false, if_true, List.length_cons]
      by_cases e : spanL (fun b => !(b == c)) l = l.length
      · rw [if_pos e]; simp [e]
      · rw [if_neg e, if_neg (by rw [beq_iff_eq]; omega), if_neg (by omega)]; simp
theorem failP_ne (s : PSt) (p e : Int) (h : s.failed ≠ 0) : failP s p e = s := by unfold failP; rw [if_neg h]
theorem failP_failed (s : PSt) (p e : Int) (he : e ≠ 0) : (failP s p e).failed ≠ 0 := by unfold failP; split <;> simp_all
theorem spanL_lt {p : UInt8 → Bool} : ∀ {l : List UInt8} {i : Nat} (h : i < l.length), i < spanL p l → p l[i] = true
  | [], i, h, _ => by simp at h
  | c :: l, 0, h, hi => by
    unfold spanL at hi
    simp only [List.getElem_cons_zero]
    by_cases hc : p c = true
    · exact hc
    · rw [if_neg hc] at hi; omega
  | c :: l, i + 1, h, hi => by
    unfold spanL at hi
    simp only [List.getElem_cons_succ]
    split at hi
    · exact spanL_lt _ (by omega)
    · omega
theorem spanL_at {p : UInt8 → Bool} {l : List UInt8} (h : spanL p l < l.length) : p l[spanL p l] = false := by
  have h2 := drop_spanL p l (l[spanL p l]) (l.drop (spanL p l + 1))
  exact h2 (List.drop_eq_getElem_cons h)
theorem extract_drop (l : List UInt8) (i : Nat) : (mkS l).extract i (mkS l).size = mkS (l.drop i) := by
  rw [extract_mk, mkS_toList, mkS_size, List.take_of_length_le (by simp)]
theorem extract_take (l : List UInt8) (i : Nat) : (mkS l).extract 0 i = mkS (l.take i) := by
  rw [extract_mk, mkS_toList]; simp

set_option maxHeartbeats 2000000 in
set_option maxRecDepth 100000 in
theorem line_any (B g : Nat) (v : Value) (text : List UInt8) (s : PSt) (w : World) (h : Pst B g v w text s) (hz : s.failed = 0) (ht : text.length ≤ 65536) (hp : s.pos ≤ text.length) :
    Calls Tryz.prog 111 #[.pointer (some ⟨g, 0, none⟩)] w fun e' w' => e' = .returned (.string (mkS (lineP text s).1)) ∧ Pst B g v w' text (lineP text s).2 ∧ Below B w w' := by
  have HP := Aside0.mk h
  obtain ⟨hB, hb, hR⟩ := h
  have hc0 : w.cell? ⟨g, 0, none⟩ = some (.string (mkS text)) := (blk_cell hb 0).trans rfl
  have hc1 : w.cell? ⟨g, 1, none⟩ = some (.int .i64 s.pos) := (blk_cell hb 1).trans rfl
  have hsz := mkS_size text
  have Hsz := Lib.hid hsz
  have hp2 : s.pos ≤ (mkS text).size := by omega
  have hsz2 : (mkS text).size ≤ 65536 := by omega
  clear hb hR hsz
  go_enter Tryz.func111, Tryz.ntmps111
  go_wp2
  go_quiet (fail)
  go_wp2_with fail
  rw [show (mkS text).extract s.pos (mkS text).size = mkS (text.drop s.pos) from extract_drop _ _]
  refine (Tryz.strings_IndexByte _ 10 _).mono ?_
  rintro e w1 ⟨rfl, rfl⟩
  rw [mkS_toList, show (10 : Int).toNat.toUInt8 = 10 from rfl, indexByte_span]
  rw [show spanL (fun b => !(b == (10 : UInt8))) (text.drop s.pos) = spanL notNl (text.drop s.pos) from rfl]
  by_cases hnl : spanL notNl (text.drop s.pos) = (text.drop s.pos).length
  · rw [if_pos hnl]
    have hres : lineP text s = ([], failP s text.length 4) := by unfold lineP; simp only [if_pos hnl]
    have Hres := Lib.hid hres
    clear hnl hres
    go_wp2_with (go_at_call 114; refine (fail_any B g v text s _ 4 _ (HP.out.drewN nq)).mono ?_; rintro e w' ⟨rfl, hp', hw', hk'⟩; have HP' := Aside0.mk hp'; have HW' := Aside0.mk hw'; clear hp' hw' hk')
    go_ret
    have hP := HP'.out
    rw [show ((mkS text).size : Int) = (text.length : Int) from by rw [Hsz.out]] at hP
    exact ⟨by rw [Hres.out]; rfl, by rw [Hres.out]; exact hP, (pw_below_drewN (Below.refl B w) nq).trans HW'.out⟩
  · rw [if_neg hnl]
    have hle := spanL_le notNl (text.drop s.pos)
    have hres : lineP text s = ((text.drop s.pos).take (spanL notNl (text.drop s.pos)), if spanL okByte ((text.drop s.pos).take (spanL notNl (text.drop s.pos))) < spanL notNl (text.drop s.pos) then failP (if 998 < spanL notNl (text.drop s.pos) then failP s (s.pos + 998) 5 else s) (s.pos + spanL okByte ((text.drop s.pos).take (spanL notNl (text.drop s.pos)))) 6 else (if 998 < spanL notNl (text.drop s.pos) then failP s (s.pos + 998) 5 else s)) := by
      unfold lineP; simp only [if_neg hnl]
    have hnlen : spanL notNl (text.drop s.pos) ≤ text.length := by simp at hle; omega
    have hll : ((text.drop s.pos).take (spanL notNl (text.drop s.pos))).length = spanL notNl (text.drop s.pos) := by rw [List.length_take]; omega
    have hrs : (mkS (text.drop s.pos)).size = (text.drop s.pos).length := mkS_size _
    generalize hn : spanL notNl (text.drop s.pos) = n at *
    have hext := extract_take (text.drop s.pos) n
    generalize hl : (text.drop s.pos).take n = l at *
    generalize hR : mkS (text.drop s.pos) = R at *
    have hRn : n ≤ R.size := by omega
    have hR2 : R.size ≤ 65536 := by simp at hrs; omega
    generalize hSq : R.extract 0 n = S at *
    have hS : S.data.toList = l := by rw [hext, mkS_toList]
    have hSs : S.size = n := by rw [hext, mkS_size, hll]
    have hS1 : n ≤ S.size := by omega
    have hS2 : S.size ≤ n := by omega
    have Hres := Lib.hid hres
    have Hll := Lib.hid hll
    have HS := Lib.hid hS
    clear hres hll hrs hext hl hR hS hSs hn hnl hle
    by_cases h9 : 998 < n
    · rw [if_pos h9] at Hres
      go_wp2_with fail
      refine (fail_any B g v text s _ 5 _ (HP.out.drewN nq)).mono ?_
      rintro e w2 ⟨rfl, hp', hw', hk'⟩
      have HP1 := Aside0.mk hp'
      have HW1 := Aside0.mk ((pw_below_drewN (Below.refl B w) nq).trans hw')
      have hpos : (failP s (s.pos + 998) 5).pos = s.pos := by unfold failP; split <;> rfl
      generalize failP s (s.pos + 998) 5 = s1 at *
      have Hpos := Lib.hid hpos
      clear hp' hw' hk' hpos
      go_wp2

      go_loopw [6, 40] (fun v6 v40 wr => ∃ k : Nat, k ≤ n ∧ v40 = .int .i64 k ∧ Aside0 (Pst B g v wr text (if spanL okByte l < k then failP s1 (s.pos + spanL okByte l) 6 else s1)) ∧ Aside0 (Below B w wr)) (fun v6 v40 _ => n - (intOf v40).toNat)
      case atStart => exact ⟨0, Nat.zero_le _, rfl, ⟨by rw [if_neg (by omega)]; exact HP1.out⟩, HW1⟩
      case round =>
        obtain ⟨k, hk, rfl, HPk, HWk⟩ := hrel
        by_cases hlt : k < n
        · have hkl : k < l.length := by have := Hll.out; omega
          have hg : S[k]'(by omega) = l[k] := by
            have h2 : S.data.toList[k]'(by rw [HS.out]; exact hkl) = l[k] := by simp only [HS.out]
            rw [← h2, Array.getElem_toList]; rfl
          have Hg := Lib.hid hg
          have hlt' : k < S.size := by omega
          obtain ⟨_, hbk, _⟩ := HPk.out
          have hpos : (if spanL okByte l < k then failP s1 (s.pos + spanL okByte l) 6 else s1).pos = s.pos := by
            split
            · unfold failP; split <;> first | simp [Hpos.out] | rfl
            · first | exact Hpos.out | rfl
          have hc1k : wr.cell? ⟨g, 1, none⟩ = some (.int .i64 s.pos) := ((blk_cell hbk 1).trans rfl).trans (by rw [hpos]; rfl)
          have hst1 : okByte l[k] = true → (if spanL okByte l < k + 1 then failP s1 (s.pos + spanL okByte l) 6 else s1) = (if spanL okByte l < k then failP s1 (s.pos + spanL okByte l) 6 else s1) := by
            intro ho
            by_cases h1 : spanL okByte l < k
            · rw [if_pos h1, if_pos (by omega)]
            · rw [if_neg h1, if_neg]
              intro h2
              have h3 : spanL okByte l = k := by omega
              have h4 := spanL_at (p := okByte) (l := l) (by omega)
              simp only [h3] at h4
              rw [h4] at ho; cases ho
          have hst2 : okByte l[k] = false → (if spanL okByte l < k + 1 then failP s1 (s.pos + spanL okByte l) 6 else s1) = failP (if spanL okByte l < k then failP s1 (s.pos + spanL okByte l) 6 else s1) (s.pos + k) 6 := by
            intro ho
            have h0 : ¬ k < spanL okByte l := fun h => by rw [spanL_lt hkl h] at ho; cases ho
            by_cases h1 : spanL okByte l < k
            · rw [if_pos h1, if_pos (by omega), failP_ne _ _ _ (failP_failed _ _ _ (by decide))]
            · have h3 : spanL okByte l = k := by omega
              rw [if_neg h1, if_pos (by omega), h3]
          have Hst1 := Lib.hid hst1
          have Hst2 := Lib.hid hst2
          have hok : okByte l[k] = ((decide (33 ≤ S[k]) && decide (S[k] ≤ 126)) || isBlank S[k]) := by rw [hg]; rfl
          have hv := visF S[k]
          have hbl := blankF S[k]
          generalize hcq : S[k] = c at *
          generalize hvq : (decide (33 ≤ c) && decide (c ≤ 126)) = vis at *
          generalize hbq : isBlank c = bl at *
          have Hv := Lib.hid hv
          have Hbl := Lib.hid hbl
          have Hok := Lib.hid hok
          have Hcq := Lib.hid hcq
          clear hg hbk hpos hst1 hst2 hok hv hbl hvq hbq hcq
          have hix : ∀ h : k < S.size, S[k]'h = c := fun h => Hcq.out
          cases vis with
          | true =>
            go_wp2_with (go_at_call 133; refine (ascii_IsVisible.calls _ true _ Hv.out).mono ?_; rintro e w' ⟨rfl, ⟨m, rfl⟩⟩)
            go_roundw
            case rel => exact ⟨k + 1, by omega, by go_num, ⟨by rw [Hst1.out (by rw [Hok.out]; rfl)]; exact HPk.out.drewN m⟩, ⟨pw_below_drewN HWk.out m⟩⟩
            case measure => simp [intOf]; omega
          | false =>
            cases bl with
            | true =>
              go_wp2_with (first | (go_at_call 133; refine (ascii_IsVisible.calls _ false _ Hv.out).mono ?_; rintro e w' ⟨rfl, ⟨m, rfl⟩⟩) | (go_at_call 112; refine (ascii_IsBlank.calls _ true _ Hbl.out).mono ?_; rintro e w' ⟨rfl, ⟨m2, rfl⟩⟩))
              go_roundw
              case rel => exact ⟨k + 1, by omega, by go_num, ⟨by rw [Hst1.out (by rw [Hok.out]; rfl)]; exact HPk.out.drewN _⟩, ⟨pw_below_drewN HWk.out _⟩⟩
              case measure => simp [intOf]; omega
            | false =>
              go_wp2_with (first | (go_at_call 133; refine (ascii_IsVisible.calls _ false _ Hv.out).mono ?_; rintro e w' ⟨rfl, ⟨m, rfl⟩⟩) | (go_at_call 112; refine (ascii_IsBlank.calls _ false _ Hbl.out).mono ?_; rintro e w' ⟨rfl, ⟨m2, rfl⟩⟩) | (go_at_call 114; refine (fail_any B g v text _ _ 6 _ (HPk.out.drewN _)).mono ?_; rintro e w' ⟨rfl, hp', hw', hk'⟩; have HP' := Aside0.mk hp'; have HW' := Aside0.mk hw'; clear hp' hw' hk'))
              go_roundw
              case rel => exact ⟨k + 1, by omega, by go_num, ⟨by rw [Hst2.out (by rw [Hok.out]; rfl)]; exact HP'.out⟩, ⟨(pw_below_drewN HWk.out _).trans HW'.out⟩⟩
              case measure => simp [intOf]; omega
        · go_wp2
          go_ret
          have hkn : k = n := by omega
          have hP := HPk.out
          rw [hkn] at hP
          refine ⟨?_, ?_, HWk.out⟩
          · rw [Hres.out]; show Ending.returned (.string S) = _; rw [← mkS_data S, HS.out]
          · rw [Hres.out]; exact hP
    · rw [if_neg h9] at Hres
      have HP1 := Aside0.mk (HP.out.drewN nq)
      have HW1 := Aside0.mk (pw_below_drewN (Below.refl B w) nq)
      have hpos : (s.pos : Nat) = s.pos := rfl
      have Hpos := Lib.hid hpos
      clear hpos
      go_wp2
      go_loopw [6, 40] (fun v6 v40 wr => ∃ k : Nat, k ≤ n ∧ v40 = .int .i64 k ∧ Aside0 (Pst B g v wr text (if spanL okByte l < k then failP s (s.pos + spanL okByte l) 6 else s)) ∧ Aside0 (Below B w wr)) (fun v6 v40 _ => n - (intOf v40).toNat)
      case atStart => exact ⟨0, Nat.zero_le _, rfl, ⟨by rw [if_neg (by omega)]; exact HP1.out⟩, HW1⟩
      case round =>
        obtain ⟨k, hk, rfl, HPk, HWk⟩ := hrel
        by_cases hlt : k < n
        · have hkl : k < l.length := by have := Hll.out; omega
          have hg : S[k]'(by omega) = l[k] := by
            have h2 : S.data.toList[k]'(by rw [HS.out]; exact hkl) = l[k] := by simp only [HS.out]
            rw [← h2, Array.getElem_toList]; rfl
          have Hg := Lib.hid hg
          have hlt' : k < S.size := by omega
          obtain ⟨_, hbk, _⟩ := HPk.out
          have hpos : (if spanL okByte l < k then failP s (s.pos + spanL okByte l) 6 else s).pos = s.pos := by
            split
            · unfold failP; split <;> first | simp [Hpos.out] | rfl
            · first | exact Hpos.out | rfl
          have hc1k : wr.cell? ⟨g, 1, none⟩ = some (.int .i64 s.pos) := ((blk_cell hbk 1).trans rfl).trans (by rw [hpos]; rfl)
          have hst1 : okByte l[k] = true → (if spanL okByte l < k + 1 then failP s (s.pos + spanL okByte l) 6 else s) = (if spanL okByte l < k then failP s (s.pos + spanL okByte l) 6 else s) := by
            intro ho
            by_cases h1 : spanL okByte l < k
            · rw [if_pos h1, if_pos (by omega)]
            · rw [if_neg h1, if_neg]
              intro h2
              have h3 : spanL okByte l = k := by omega
              have h4 := spanL_at (p := okByte) (l := l) (by omega)
              simp only [h3] at h4
              rw [h4] at ho; cases ho
          have hst2 : okByte l[k] = false → (if spanL okByte l < k + 1 then failP s (s.pos + spanL okByte l) 6 else s) = failP (if spanL okByte l < k then failP s (s.pos + spanL okByte l) 6 else s) (s.pos + k) 6 := by
            intro ho
            have h0 : ¬ k < spanL okByte l := fun h => by rw [spanL_lt hkl h] at ho; cases ho
            by_cases h1 : spanL okByte l < k
            · rw [if_pos h1, if_pos (by omega), failP_ne _ _ _ (failP_failed _ _ _ (by decide))]
            · have h3 : spanL okByte l = k := by omega
              rw [if_neg h1, if_pos (by omega), h3]
          have Hst1 := Lib.hid hst1
          have Hst2 := Lib.hid hst2
          have hok : okByte l[k] = ((decide (33 ≤ S[k]) && decide (S[k] ≤ 126)) || isBlank S[k]) := by rw [hg]; rfl
          have hv := visF S[k]
          have hbl := blankF S[k]
          generalize hcq : S[k] = c at *
          generalize hvq : (decide (33 ≤ c) && decide (c ≤ 126)) = vis at *
          generalize hbq : isBlank c = bl at *
          have Hv := Lib.hid hv
          have Hbl := Lib.hid hbl
          have Hok := Lib.hid hok
          have Hcq := Lib.hid hcq
          clear hg hbk hpos hst1 hst2 hok hv hbl hvq hbq hcq
          have hix : ∀ h : k < S.size, S[k]'h = c := fun h => Hcq.out
          cases vis with
          | true =>
            go_wp2_with (go_at_call 133; refine (ascii_IsVisible.calls _ true _ Hv.out).mono ?_; rintro e w' ⟨rfl, ⟨m, rfl⟩⟩)
            go_roundw
            case rel => exact ⟨k + 1, by omega, by go_num, ⟨by rw [Hst1.out (by rw [Hok.out]; rfl)]; exact HPk.out.drewN m⟩, ⟨pw_below_drewN HWk.out m⟩⟩
            case measure => simp [intOf]; omega
          | false =>
            cases bl with
            | true =>
              go_wp2_with (first | (go_at_call 133; refine (ascii_IsVisible.calls _ false _ Hv.out).mono ?_; rintro e w' ⟨rfl, ⟨m, rfl⟩⟩) | (go_at_call 112; refine (ascii_IsBlank.calls _ true _ Hbl.out).mono ?_; rintro e w' ⟨rfl, ⟨m2, rfl⟩⟩))
              go_roundw
              case rel => exact ⟨k + 1, by omega, by go_num, ⟨by rw [Hst1.out (by rw [Hok.out]; rfl)]; exact HPk.out.drewN _⟩, ⟨pw_below_drewN HWk.out _⟩⟩
              case measure => simp [intOf]; omega
            | false =>
              go_wp2_with (first | (go_at_call 133; refine (ascii_IsVisible.calls _ false _ Hv.out).mono ?_; rintro e w' ⟨rfl, ⟨m, rfl⟩⟩) | (go_at_call 112; refine (ascii_IsBlank.calls _ false _ Hbl.out).mono ?_; rintro e w' ⟨rfl, ⟨m2, rfl⟩⟩) | (go_at_call 114; refine (fail_any B g v text _ _ 6 _ (HPk.out.drewN _)).mono ?_; rintro e w' ⟨rfl, hp', hw', hk'⟩; have HP' := Aside0.mk hp'; have HW' := Aside0.mk hw'; clear hp' hw' hk'))
              go_roundw
              case rel => exact ⟨k + 1, by omega, by go_num, ⟨by rw [Hst2.out (by rw [Hok.out]; rfl)]; exact HP'.out⟩, ⟨(pw_below_drewN HWk.out _).trans HW'.out⟩⟩
              case measure => simp [intOf]; omega
        · go_wp2
          go_ret
          have hkn : k = n := by omega
          have hP := HPk.out
          rw [hkn] at hP
          refine ⟨?_, ?_, HWk.out⟩
          · rw [Hres.out]; show Ending.returned (.string S) = _; rw [← mkS_data S, HS.out]
          · rw [Hres.out]; exact hP

end Go.Proofs.YtfeciafdioepiaaGreatDoor

/- Plain: where the next word lies; the last field's body. -/
namespace Go.Proofs.YtfeciafdioepiaaGreatDoor
open Go

theorem index_blanks (w : List UInt8) (c0 : UInt8) (hw : w.head? = some c0) (hb : isBlank c0 = false) :
    ∀ rest : List UInt8, w.isPrefixOf (rest.drop (spanL isBlank rest)) = true → Lib.index rest w = spanL isBlank rest := by
  intro rest
  induction rest with
  | nil =>
    intro h
    cases w with
    | nil => simp at hw
    | cons a w => simp [spanL] at h
  | cons b r ih =>
    intro h
    unfold Lib.index
    by_cases hbl : isBlank b = true
    · have h1 : spanL isBlank (b :: r) = spanL isBlank r + 1 := by
        conv => lhs; unfold spanL
        rw [if_pos hbl]
      rw [h1, List.drop_succ_cons] at h
      have h2 := ih h
      have hnp : w.isPrefixOf (b :: r) = false := by
        cases w with
        | nil => simp at hw
        | cons a w =>
          simp at hw
          subst hw
          have : (a == b) = false := by
            rw [beq_eq_false_iff_ne]; intro e; subst e; rw [hbl] at hb; cases hb
          simp [List.isPrefixOf, this]
      rw [hnp, h2, h1]
      simp
    · have h1 : spanL isBlank (b :: r) = 0 := by
        conv => lhs; unfold spanL
        rw [if_neg hbl]
      rw [h1] at h ⊢
      rw [if_pos (by simpa using h)]; rfl

theorem next_word {l : List UInt8} {i : Nat} {w : List UInt8} {ws : List (List UInt8)} (h : wordsL (l.drop i) = w :: ws) :
    Lib.index (l.drop i) w = spanL isBlank (l.drop i) ∧ wordsL (l.drop (spanA isBlank l i + w.length)) = ws ∧ spanA isBlank l i + w.length ≤ l.length ∧ i ≤ spanA isBlank l i ∧ 0 < w.length ∧ w = (l.drop (spanA isBlank l i)).take w.length := by
  have h1 : wordsL (l.drop (spanA isBlank l i)) = w :: ws := by rw [words_at]; exact h
  have hlt : spanA isBlank l i < l.length := by
    rcases Nat.lt_or_ge (spanA isBlank l i) l.length with h2 | h2
    · exact h2
    · rw [words_end h2] at h1; cases h1
  have hi : i ≤ l.length := by unfold spanA at hlt; omega
  have hb := blank_stops hlt
  have hn := words_next hlt hb
  have hq := spanA_pos hlt hb
  have hle := spanA_le (p := fun c => !isBlank c) (l := l) (i := spanA isBlank l i) (by omega)
  have hle2 := spanA_le (p := isBlank) (l := l) (i := i) hi
  rw [hn] at h1
  injection h1 with e1 e2
  have hwl : w.length = spanA (fun c => !isBlank c) l (spanA isBlank l i) - spanA isBlank l i := by
    rw [← e1, List.length_take, List.length_drop]; omega
  have hsum : spanA isBlank l i + w.length = spanA (fun c => !isBlank c) l (spanA isBlank l i) := by omega
  have htk : w = (l.drop (spanA isBlank l i)).take w.length := by rw [hwl]; exact e1.symm
  refine ⟨?_, by rw [hsum]; exact e2, by omega, hle2.1, by omega, htk⟩
  refine index_blanks w l[spanA isBlank l i] ?_ hb _ ?_
  · rw [htk, List.drop_eq_getElem_cons hlt]
    cases hwn : w.length with
    | zero => omega
    | succ n => rfl
  · rw [List.isPrefixOf_iff_prefix]
    have e3 : (l.drop i).drop (spanL isBlank (l.drop i)) = l.drop (spanA isBlank l i) := by unfold spanA; rw [List.drop_drop]
    rw [e3]
    conv => lhs; rw [htk]
    exact List.take_prefix _ _

theorem setBody_map {α : Type} (f : Fld → α) (fs : List Fld) (b : List UInt8) (h : fs ≠ []) :
    (setBody fs b).map f = (fs.map f).set (fs.length - 1) (f ⟨(fs.getLast h).name, b⟩) := by
  unfold setBody
  rw [List.getLast?_eq_some_getLast h]
  simp only
  generalize hx : fs.getLast h = x
  have e : fs = fs.dropLast ++ [x] := by rw [← hx]; exact (List.dropLast_concat_getLast h).symm
  generalize fs.dropLast = ys at e ⊢
  subst e
  rw [List.map_append, List.map_append]
  have e2 : (ys ++ [x]).length - 1 = (ys.map f).length := by simp
  rw [e2, List.set_append_right _ _ (Nat.le_refl _)]
  simp
theorem setBody_length (fs : List Fld) (b : List UInt8) : (setBody fs b).length = fs.length := by
  unfold setBody
  cases h : fs.getLast? with
  | none => rfl
  | some f =>
    have : fs ≠ [] := by intro e; subst e; simp at h
    have := List.length_pos_iff.2 this
    simp; omega
theorem wordsP_fs (line : List UInt8) : ∀ (ws : List (List UInt8)) (i : Nat) (s : PSt), (wordsP s line i ws).fs = s.fs ∧ (wordsP s line i ws).pos = s.pos
  | [], i, s => ⟨rfl, rfl⟩
  | w :: ws, i, s => by
    unfold wordsP
    have := wordsP_fs line ws (spanA isBlank line i + w.length) (if 900 < w.length then failP s (s.pos + spanA isBlank line i) 5 else s)
    rw [this.1, this.2]
    split
    · unfold failP; split <;> exact ⟨rfl, rfl⟩
    · exact ⟨rfl, rfl⟩
theorem wordsP_cons (s : PSt) (line : List UInt8) (i : Nat) (w : List UInt8) (ws : List (List UInt8)) :
    wordsP s line i (w :: ws) = wordsP (if 900 < w.length then failP s (s.pos + spanA isBlank line i) 5 else s) line (spanA isBlank line i + w.length) ws := rfl
theorem lastBody_eq (fs : List Fld) (h : fs ≠ []) : lastBody fs = (fs.getLast h).body := by
  unfold lastBody; rw [List.getLast?_eq_some_getLast h]
/-- All lengths together. -/
def sumL (ws : List (List UInt8)) : Nat := (ws.map List.length).sum
theorem sumL_append (a b : List (List UInt8)) : sumL (a ++ b) = sumL a + sumL b := by simp [sumL]
theorem wordsGo_sum (l : List UInt8) : ∀ cur, sumL (wordsGo l cur) ≤ l.length + cur.length := by
  induction l with
  | nil => intro cur; unfold wordsGo; split <;> simp [sumL]
  | cons c l ih =>
    intro cur
    unfold wordsGo
    by_cases hb : isBlank c = true
    · rw [if_pos hb]
      have := ih []
      by_cases hc : cur = []
      · rw [if_pos hc]; simp at this ⊢; omega
      · rw [if_neg hc]; simp [sumL] at this ⊢; omega
    · rw [if_neg hb]
      have := ih (cur ++ [c])
      simp at this ⊢; omega
theorem wordsL_sum (l : List UInt8) : sumL (wordsL l) ≤ l.length := by have := wordsGo_sum l []; simpa [wordsL] using this
theorem joinW_len (ws : List (List UInt8)) : (joinW ws).length ≤ sumL ws + ws.length := by
  unfold joinW
  cases ws with
  | nil => simp
  | cons x r =>
    have h := Lib.join_cons x r [32]
    unfold Lib.join at h
    rw [h]
    have : ∀ r : List (List UInt8), (Lib.joinTail [32] r).length = sumL r + r.length := by
      intro r
      induction r with
      | nil => rfl
      | cons y r ih => simp only [Lib.joinTail, List.map_cons, List.flatten_cons, List.length_append, sumL, List.sum_cons] at ih ⊢; simp at ih ⊢; omega
    rw [List.length_append, this]
    simp [sumL]; omega
end Go.Proofs.YtfeciafdioepiaaGreatDoor

/- The contract of the parser's method body over this translation. -/
namespace Go.Proofs.YtfeciafdioepiaaGreatDoor
open Go.RowKit Go.Proofs Go.Proofs.YtfeciafdioepiaaGreatDoorW.PrintWords Go.Proofs.YtfeciafdioepiaaGreatDoor.PA

theorem join_n (A : Option Addr) (c n : Nat) (xs : List ByteArray) (sep : ByteArray) (w : World) (hn : xs.length = n) (hr : Kd.C Kd.string w A xs.length xs) (hc : xs.length ≤ c) (hN : xs.length ≤ 140737488355328) (hl : (joinB xs sep).size ≤ 140737488355328) :
    Calls Tryz.prog 118 #[.slice A n c, .string sep] w fun e w' => e = .returned (.string (joinB xs sep)) ∧ Below w.heap.size w w' := by
  subst hn; exact join_any A c xs sep w hr hc hN hl
theorem joinB_mk (ws : List (List UInt8)) : joinB (ws.map mkS) ⟨#[32]⟩ = mkS (joinW ws) := by
  unfold joinB joinW Lib.join
  congr 1
  rw [List.map_map]
  congr 1
  conv => rhs; rw [← List.map_id ws]
  apply List.map_congr_left
  intro x _
  simp
/-- The library's variable holds some number. -/
def Gm (w : World) : Prop := ∃ m, w.cell? ⟨0, 0, none⟩ = some (.int .i64 m)
theorem Gm.below {w w1 : World} {B : Nat} (h : Gm w) (hb : Below B w w1) (hB : 0 < B) : Gm w1 := by
  obtain ⟨m, hm⟩ := h
  exact ⟨m, (hb.cell (p := ⟨0, 0, none⟩) hB).trans hm⟩
theorem index_any (s sub : ByteArray) (w : World) (hg : Gm w) (hs : s.size ≤ 1048576) :
    Calls Tryz.prog 58 #[.string s, .string sub] w fun e w' => e = .returned (.int .i64 (Lib.index s.data.toList sub.data.toList)) ∧ w' = w := by
  obtain ⟨m, hm⟩ := hg
  exact Tryz.strings_Index s sub m w (by omega) hm

/-- The last field's body, read. -/
theorem last_cell {W : World} {B : Nat} {gv n cap : Nat} {fs : List Fld} (h : Kd.R k76 76 W B (fun _ => True) (.slice (some ⟨gv, 0, none⟩) n cap) (fs.map toS)) (hn : fs ≠ []) :
    W.cell? ⟨gv, (n - 1) * 2 + 1, none⟩ = some (.string (mkS (lastBody fs))) ∧ W.frozen? ⟨gv, (n - 1) * 2 + 1, none⟩ = false := by
  have hl := (Kd.R_reads' h).1
  rw [List.length_map] at hl
  have hpos := List.length_pos_iff.2 hn
  obtain ⟨c, hcl, hM, hcc, hf⟩ := Kd.R_elem h PA.z76 ((n - 1 : Nat) : Int) (by omega) (by omega)
  have hc := k76_openM hM
  have hget : (fs.map toS).getD ((n - 1 : Nat) : Int).toNat PA.z76 = toS (fs.getLast hn) := by
    rw [Int.toNat_natCast, List.getD_eq_getElem?_getD, List.getElem?_map, hl, ← List.getLast?_eq_getElem?, List.getLast?_eq_some_getLast hn]; rfl
  rw [hget] at hc
  rw [Int.toNat_natCast] at hcc hf
  refine ⟨hcc 1 _ ?_, hf 1⟩
  rw [hc, lastBody_eq fs hn]; rfl
/-- The body of the last field is written. -/
theorem put_body {W : World} {B : Nat} {gv n cap : Nat} {fs : List Fld} (h : Kd.R k76 76 W B (fun _ => True) (.slice (some ⟨gv, 0, none⟩) n cap) (fs.map toS)) (hn : fs ≠ []) (b : List UInt8) :
    Kd.R k76 76 (W.setCell ⟨gv, (n - 1) * 2 + 1, none⟩ (.string (mkS b))) B (fun _ => True) (.slice (some ⟨gv, 0, none⟩) n cap) ((setBody fs b).map toS) ∧ W.grownBy (W.setCell ⟨gv, (n - 1) * 2 + 1, none⟩ (.string (mkS b))) (some gv) := by
  have hl := (Kd.R_reads' h).1
  rw [List.length_map] at hl
  have hpos := List.length_pos_iff.2 hn
  have hi0 : (0 : Int) ≤ ((n - 1 : Nat) : Int) := by omega
  have hi1 : ((n - 1 : Nat) : Int) < n := by omega
  obtain ⟨c, hcl, hM, hcc, _⟩ := Kd.R_elem h PA.z76 ((n - 1 : Nat) : Int) hi0 hi1
  have hc := k76_openM hM
  have hget : (fs.map toS).getD ((n - 1 : Nat) : Int).toNat PA.z76 = toS (fs.getLast hn) := by
    rw [Int.toNat_natCast, List.getD_eq_getElem?_getD, List.getElem?_map, hl, ← List.getLast?_eq_getElem?, List.getLast?_eq_some_getLast hn]; rfl
  rw [hget] at hc
  have hx : k76.M W B (fun _ => False) (toS ⟨(fs.getLast hn).name, b⟩) (c.take 1 ++ [.string (mkS b)] ++ c.drop (1 + [Value.string (mkS b)].length)) := by
    rw [hc]; exact k76_mkM _ _ _ _
  have hr := Kd.R_seg h ((n - 1 : Nat) : Int) hi0 hi1 (c := c) (seg := [.string (mkS b)]) (j := 1) hcl hcc (by show 1 + 1 ≤ 2; omega) hx (fun k hk => hk.elim)
  rw [Int.toNat_natCast] at hr
  rw [setBody_map toS fs b hn, ← hl]
  exact hr

set_option maxHeartbeats 2000000 in
set_option maxRecDepth 100000 in
theorem body_any (B g gv n cap : Nat) (text : List UInt8) (s : PSt) (line : List UInt8) (i : Nat) (w : World) (h : Pst B g (.slice (some ⟨gv, 0, none⟩) n cap) w text s) (hn : s.fs ≠ []) (hi : i ≤ line.length) (hl : line.length ≤ 65536) (hb : (lastBody s.fs).length ≤ 65536) (hp : s.pos ≤ 65536)
    (hg : Gm w) (hB : 0 < B) (hBw : B ≤ w.heap.size) :
    Calls Tryz.prog 115 #[.pointer (some ⟨g, 0, none⟩), .string (mkS line), .int .i64 i] w fun e' w' => e' = .returned (.tuple #[]) ∧ Pst B g (.slice (some ⟨gv, 0, none⟩) n cap) w' text (bodyP s line i) ∧ Below B w w' := by
  have HP := Aside0.mk h
  obtain ⟨hBg, hbk, hR⟩ := h
  have hnl := (Kd.R_reads' hR).1
  rw [List.length_map] at hnl
  have hpos := List.length_pos_iff.2 hn
  have hc2 : w.cell? ⟨g, 2, none⟩ = some (.slice (some ⟨gv, 0, none⟩) n cap) := (blk_cell hbk 2).trans rfl
  have hsz := mkS_size line
  have hi2 : i ≤ (mkS line).size := by omega
  have hsz2 : (mkS line).size ≤ 65536 := by omega
  have hn0 : 0 < n := by omega
  have hn1 : n ≤ 9223372036854775807 := by have := (Kd.R_reads' hR).2.2.2.1; rw [List.length_map] at this; omega
  have hw1 : IntKind.i64.wrap ((n : Int) - 1) = (n : Int) - 1 := IntWalk.i64_in _ (by omega)
  have hw2 : 0 ≤ (n : Int) - 1 := by omega
  have hw3 : ((n : Int) - 1).toNat = n - 1 := by omega
  have Hsz := Lib.hid hsz
  have Hnl := Lib.hid hnl
  clear hbk hR hsz hnl
  go_enter Tryz.func115, Tryz.ntmps115
  go_wp2
  go_quiet (fail)
  clear hw1 hw2 hw3
  go_wp2_with fail
  rw [show (mkS line).extract i (mkS line).size = mkS (line.drop i) from extract_drop _ _]
  refine (ascii_Words.calls _ _ (by rw [mkS_size, List.length_drop]; omega)).mono ?_
  rintro e w1 ⟨v1, rfl, hR1, hb1⟩
  have hwb : wordsB (mkS (line.drop i)) = (wordsL (line.drop i)).map mkS := by unfold wordsB; rw [mkS_toList]
  rw [hwb] at hR1
  have HP1 := Aside0.mk ((HP.out.drewN nq).below hb1)
  have HW1 := Aside0.mk ((pw_below_drewN (Below.refl B w) nq).trans (hb1.mono hBw))
  obtain ⟨A1, c1, rfl⟩ := Kd.R_slice hR1
  have HR1 := Aside0.mk (Kd.R_mono (Kd.R_types (Kd.R_lower hR1 hBw) ((HP.out.drewN nq).below hb1).2.1 (by decide)) (fun k hk => (hk.2 : k ≠ g)))
  rw [List.length_map] at HR1
  generalize hws : wordsL (line.drop i) = ws at *
  have Hws := Lib.hid hws
  have hwl : 2 * ws.length ≤ line.length + 1 := by have := wordsL_len (line.drop i); rw [hws] at this; simp at this; omega
  rw [List.length_map]
  clear hR1 hb1 hwb hws
  go_wp2
  go_loopw [8, 10, 29] (fun v8 v10 v29 wr => ∃ (k j : Nat) (st : PSt), k ≤ ws.length ∧ v29 = .int .i64 k ∧ v8 = .int .i64 j ∧ j ≤ line.length ∧ Aside0 (wordsL (line.drop j) = ws.drop k) ∧ Aside0 (wordsP st line j (ws.drop k) = wordsP s line i ws) ∧ Aside0 (st.pos = s.pos ∧ st.fs = s.fs) ∧
      Aside0 (Pst B g (.slice (some ⟨gv, 0, none⟩) n cap) wr text st) ∧ Aside0 (Below B w wr) ∧ Aside0 (Kd.R Kd.string 9 wr B (fun k => k ≠ g) (.slice A1 ws.length c1) (ws.map mkS))) (fun v8 v10 v29 _ => ws.length - (intOf v29).toNat)
  case atStart => exact ⟨0, i, s, Nat.zero_le _, rfl, rfl, hi, ⟨Hws.out⟩, ⟨rfl⟩, ⟨⟨rfl, rfl⟩⟩, HP1, HW1, HR1⟩
  case round =>
    obtain ⟨k, j, st, hk, rfl, rfl, hj, HL, HE, HS, HPk, HWk, HRk⟩ := hrel
    by_cases hlt : k < ws.length
    · have hdk : ws.drop k = ws[k] :: ws.drop (k + 1) := List.drop_eq_getElem_cons hlt
      obtain ⟨hidx, hnx, hle, hji, hxl, _⟩ := next_word (HL.out.trans hdk)
      obtain ⟨ad, hA, hx0⟩ := Kd.at_string (Kd.R_reads' HRk.out).2.2 k (by omega) (by simp; omega)
      have hget : rdOf ByteArray.empty (ws.map mkS) (k : Int) = mkS ws[k] := by
        unfold rdOf; rw [Int.toNat_natCast, List.getD_eq_getElem?_getD, List.getElem?_map, List.getElem?_eq_getElem hlt]; rfl
      rw [hget] at hx0
      rw [Int.toNat_natCast] at hx0
      have hE2 := HE.out
      rw [hdk] at hE2
      rw [wordsP_cons] at hE2
      generalize hxq : ws[k] = x at *
      obtain ⟨_, hbk, _⟩ := HPk.out
      have hc1 : wr.cell? ⟨g, 1, none⟩ = some (.int .i64 s.pos) := ((blk_cell hbk 1).trans rfl).trans (by rw [HS.out.1]; rfl)
      have hj2 : j ≤ (mkS line).size := by have := Hsz.out; omega
      have hsa : j + spanL isBlank (line.drop j) = spanA isBlank line j := rfl
      have hxs := mkS_size x
      have hlx := longF (mkS x)
      rw [hxs] at hlx
      generalize hp1 : spanL isBlank (line.drop j) = p1 at *
      generalize hp2 : spanA isBlank line j = p2 at *
      generalize hS : mkS x = X at *
      have hX1 : x.length ≤ X.size := by omega
      have hX2 : X.size ≤ x.length := by omega
      have hsa1 : j + p1 ≤ p2 := by omega
      have hsa2 : p2 ≤ j + p1 := by omega
      have HE2 := Aside0.mk hE2
      have Hlx := Lib.hid hlx
      have Hidx := Lib.hid hidx
      have Hnx := Lib.hid hnx
      have HXl : Hid (X.data.toList = x) := by rw [← hS]; exact mkS_toList x
      have Hhg : Hid (Gm wr) := hg.below HWk.out hB
      have Hxs := Lib.hid hxs
      subst hA
      clear hdk hidx hnx hget hE2 hxq hbk hsa hxs hlx hp1 hp2 hS HL HE
      go_wp2_with fail
      rw [show (mkS line).extract j (mkS line).size = mkS (line.drop j) from extract_drop _ _]
      refine (index_any _ _ _ Hhg.out (by rw [mkS_size, List.length_drop]; omega)).mono ?_
      rintro e w2 ⟨rfl, rfl⟩
      rw [mkS_toList, HXl.out, Hidx.out]
      rcases Bool.eq_false_or_eq_true (decide (900 < x.length)) with hq | hq
      · have Hq := Lib.hid hq
        clear hq
        go_wp2_with (first | (go_at_call 120; refine (field_long.calls X true _ (by rw [Hlx.out, Hq.out])).mono ?_; rintro e w' ⟨rfl, ⟨m, rfl⟩⟩) | (go_at_call 114; refine (fail_any B g (.slice (some ⟨gv, 0, none⟩) n cap) text st _ 5 _ (HPk.out.drewN _)).mono ?_; rintro e w' ⟨rfl, hp', hw', hk'⟩; have HP' := Aside0.mk hp'; have HW' := Aside0.mk hw'; have HK' := Aside0.mk hk'; clear hp' hw' hk'))
        go_roundw
        case rel =>
          refine ⟨k + 1, p2 + x.length, failP st (st.pos + p2) 5, by omega, by go_num, ?_, by omega, ⟨Hnx.out⟩, ⟨?_⟩, ⟨?_⟩, ⟨?_⟩, ⟨(pw_below_drewN HWk.out _).trans HW'.out⟩, ⟨Kd.R_keep (Kd.R_drewN HRk.out _) HK'.out (fun _ h => h)⟩⟩
          · congr 1; omega
          · have h2 := HE2.out
            rw [if_pos (of_decide_eq_true Hq.out)] at h2
            exact h2
          · unfold failP; split <;> exact HS.out
          · have h2 := HP'.out
            have e : ((s.pos : Int) + ((j : Int) + (p1 : Int))) = ((st.pos : Int) + (p2 : Int)) := by rw [HS.out.1]; omega
            rw [e] at h2
            exact h2
        case measure => simp [intOf]; omega
      · have Hq := Lib.hid hq
        clear hq
        go_wp2_with (go_at_call 120; refine (field_long.calls X false _ (by rw [Hlx.out, Hq.out])).mono ?_; rintro e w' ⟨rfl, ⟨m, rfl⟩⟩)
        go_roundw
        case rel =>
          refine ⟨k + 1, p2 + x.length, st, by omega, by go_num, ?_, by omega, ⟨Hnx.out⟩, ⟨?_⟩, HS, ⟨HPk.out.drewN _⟩, ⟨pw_below_drewN HWk.out _⟩, ⟨Kd.R_drewN HRk.out _⟩⟩
          · congr 1; omega
          · have h2 := HE2.out
            rw [if_neg (of_decide_eq_false Hq.out)] at h2
            exact h2
        case measure => simp [intOf]; omega
    · have hk2 : ws.drop k = [] := List.drop_eq_nil_of_le (by omega)
      have hE := HE.out
      rw [hk2] at hE
      have hst : st = wordsP s line i ws := hE
      have Hst := Lib.hid hst
      obtain ⟨hcb, hfb⟩ := last_cell HPk.out.2.2 (by rw [HS.out.2]; exact hn)
      rw [HS.out.2] at hcb
      have hlb := mkS_size (lastBody s.fs)
      have Hlb := Lib.hid hlb
      clear hk2 hE hst HL HE hlb
      go_wp2_with fail
      refine (ascii_Words.calls _ _ (by rw [Hlb.out]; omega)).mono ?_
      rintro e w3 ⟨v3, rfl, hR3, hb3⟩
      have hwb : wordsB (mkS (lastBody s.fs)) = (wordsL (lastBody s.fs)).map mkS := by unfold wordsB; rw [mkS_toList]
      rw [hwb] at hR3
      have hw3l := wordsL_len (lastBody s.fs)
      generalize hw3 : wordsL (lastBody s.fs) = ws3 at *
      have Hw3 := Lib.hid hw3
      have HP3 := Aside0.mk (HPk.out.below hb3)
      have HW3 := Aside0.mk (HWk.out.trans (hb3.mono (Nat.le_trans hBw HWk.out.size)))
      have HR3 := Aside0.mk hR3
      have HRw := Aside0.mk (Kd.R_below HRk.out hb3)
      have hBs : B ≤ w3.heap.size := Nat.le_trans (Nat.le_trans hBw HWk.out.size) hb3.size
      have hbs : wr.heap.size ≤ w3.heap.size := hb3.size
      have HB3 := Aside0.mk hb3
      clear hR3 hb3 hwb hw3
      go_wp2_with (at_builtin; refine Kd.R_append_rows Kd.string (Rr := fun x cs => cs = [.string x]) (w0 := wr) wr.heap.size rfl (.tmp 60) (.tmp 61) 51 9 (.string ⟨#[]⟩) 16 rfl Tryz.underlying51 info9 rfl (by decide) (by omega) v3 (ws3.map mkS) (ws.map mkS) A1 ws.length c1 (fun _ => True) (fun _ => False) rfl rfl HR3.out ?aR (fun _ _ h => h) (fun _ h => h.elim) (fun _ _ => trivial) (Below.refl _ _ |>.trans HB3.out) hbs ?aL ?_)
      case aR =>
        have := (Kd.R_reads' HRw.out).2.2
        rw [List.length_map] at this
        exact this
      case aL => rw [List.length_map]; omega
      intro v4 w4 hR4 hb4 hg4 _
      have HP4 := Aside0.mk (HPk.out.below hb4)
      have HW4 := Aside0.mk (HWk.out.trans (hb4.mono (Nat.le_trans hBw HWk.out.size)))
      have hB4 : wr.heap.size ≤ w4.heap.size := hb4.size
      obtain ⟨A4, c4, rfl⟩ := Kd.R_slice hR4
      have hR4' := Kd.R_reads' hR4
      have hl4 : (ws3.map mkS ++ ws.map mkS).length = ws3.length + ws.length := by simp
      have hmm : ws3.map mkS ++ ws.map mkS = (ws3 ++ ws).map mkS := by simp
      rw [hmm] at hR4' hR4 hl4
      rw [hmm]
      have HR4 := Aside0.mk hR4'
      have hjl := joinW_len (ws3 ++ ws)
      have hs3 := wordsL_sum (lastBody s.fs)
      have hs1 := wordsL_sum (line.drop i)
      rw [Hw3.out] at hs3
      rw [Hws.out] at hs1
      rw [sumL_append] at hjl
      simp only [List.length_append, List.length_drop] at hjl hs1
      clear hR4 hb4 hg4 hR4' hmm
      go_wp2_with fail
      refine (join_n A4 c4 _ ((ws3 ++ ws).map mkS) ⟨#[32]⟩ _ (by first | exact hl4 | simp) HR4.out.2.2 HR4.out.2.1 (by rw [hl4]; omega) (by rw [joinB_mk, mkS_size]; omega)).mono ?_
      rintro e w5 ⟨rfl, hb5⟩
      rw [joinB_mk]
      have HP5 := Aside0.mk (HP4.out.below hb5)
      have HW5 := Aside0.mk (HW4.out.trans (hb5.mono (by have := HW4.out.size; omega)))
      obtain ⟨hcb5, hfb5⟩ := last_cell HP5.out.2.2 (by rw [HS.out.2]; exact hn)
      have hput := put_body HP5.out.2.2 (by rw [HS.out.2]; exact hn) (joinW (ws3 ++ ws))
      have hP6 : Pst B g (.slice (some ⟨gv, 0, none⟩) n cap) (w5.setCell ⟨gv, (n - 1) * 2 + 1, none⟩ (.string (mkS (joinW (ws3 ++ ws))))) text { st with fs := setBody st.fs (joinW (ws3 ++ ws)) } := by
        refine ⟨hBg, ?_, hput.1⟩
        exact blk_grown HP5.out.2.1 hput.2 (Kd.R_ne HP5.out.2.2 HP5.out.2.1 (by decide))
      have hB6 : Below B w (w5.setCell ⟨gv, (n - 1) * 2 + 1, none⟩ (.string (mkS (joinW (ws3 ++ ws))))) := HW5.out.setCell (p := ⟨gv, (n - 1) * 2 + 1, none⟩) (Kd.R_base HP5.out.2.2 gv (by simp [Value.ownBlock])) _
      have hres : bodyP s line i = if 8192 < (joinW (ws3 ++ ws)).length then failP { st with fs := setBody st.fs (joinW (ws3 ++ ws)) } s.pos 5 else { st with fs := setBody st.fs (joinW (ws3 ++ ws)) } := by
        unfold bodyP
        rw [Hws.out, Hw3.out]
        simp only []
        rw [← Hst.out]
      have hjs := mkS_size (joinW (ws3 ++ ws))
      generalize hJ : mkS (joinW (ws3 ++ ws)) = J at *
      generalize hbl : joinW (ws3 ++ ws) = bl at *
      have hJ1 : J.size ≤ bl.length := by omega
      have hJ2 : bl.length ≤ J.size := by omega
      have HP6 := Aside0.mk hP6
      have HB6 := Aside0.mk hB6
      have Hres := Lib.hid hres
      clear hb5 hput hP6 hB6 hres hjs hJ hbl hl4
      by_cases h8 : 8192 < bl.length
      · rw [if_pos h8] at Hres
        have hc15 : w5.cell? ⟨g, 1, none⟩ = some (.int .i64 s.pos) := ((blk_cell HP5.out.2.1 1).trans rfl).trans (by rw [HS.out.1]; rfl)
        have hne1 : gv ≠ g := fun e => Kd.R_ne HP5.out.2.2 HP5.out.2.1 (by decide) (by rw [← e]; rfl)
        have hne2 : ¬ g = gv := fun e => hne1 e.symm
        go_wp2_with (go_at_call 114; refine (fail_any B g (.slice (some ⟨gv, 0, none⟩) n cap) text _ _ 5 _ HP6.out).mono ?_; rintro e w' ⟨rfl, hp', hw', hk'⟩; have HP' := Aside0.mk hp'; have HW' := Aside0.mk hw'; clear hp' hw' hk')
        go_end0
        exact ⟨rfl, by rw [Hres.out]; exact HP'.out, HB6.out.trans HW'.out⟩
      · rw [if_neg h8] at Hres
        go_wp2
        go_end0
        exact ⟨rfl, by rw [Hres.out]; exact HP6.out, HB6.out⟩

end Go.Proofs.YtfeciafdioepiaaGreatDoor

/- Plain: valid names; one line of a header; the whole header. -/
namespace Go.Proofs.YtfeciafdioepiaaGreatDoor
def isLetterU (c : UInt8) : Bool := (decide (97 ≤ c) && decide (c ≤ 122)) || (decide (65 ≤ c) && decide (c ≤ 90))
def isDigitU (c : UInt8) : Bool := decide (48 ≤ c) && decide (c ≤ 57)
def nameByte (c : UInt8) : Bool := isLetterU c || isDigitU c || c == 45
def validNameL (l : List UInt8) : Bool := decide (l.length ≤ 40) && (match l with
  | [] => false
  | c :: _ => isLetterU c) && l.all nameByte
def contP (line : List UInt8) : Bool := match line with
  | [] => false
  | c :: _ => isBlank c
def colonP (line : List UInt8) : Nat := spanL notColon line
/-- What follows the reading of a line, if nothing is noted. -/
def switchP (line : List UInt8) (s : PSt) : PSt :=
  if contP line then (if s.fs = [] then failP s s.pos 3 else bodyP s line 0)
  else if colonP line = line.length then failP s s.pos 3
  else if validNameL (line.take (colonP line)) = false then failP s s.pos 12
  else if s.fs.length = 64 then failP s s.pos 9
  else bodyP { s with fs := s.fs ++ [⟨line.take (colonP line), []⟩] } line (colonP line + 1)
def oneP (text : List UInt8) (s : PSt) : PSt :=
  let (line, s1) := lineP text s
  if s1.failed ≠ 0 then s1
  else
    let s2 := switchP line s1
    { s2 with pos := s2.pos + (line.length + 1) }
/-- The loop; the number counts what is left. -/
def loopP (text : List UInt8) : Nat → PSt → PSt
  | 0, s => s
  | k + 1, s => if s.failed = 0 ∧ s.pos < text.length then loopP text k (oneP text s) else s
/-- field.Parse: the fields, the place and the kind of the first error. -/
def parseP (text : List UInt8) : List Fld × Int × Int :=
  if 65536 < text.length then ([], 65536, 5)
  else
    let s := loopP text (text.length + 1) ⟨0, [], 0, 0⟩
    if s.failed ≠ 0 then ([], s.place, s.failed) else (s.fs, 0, 0)
end Go.Proofs.YtfeciafdioepiaaGreatDoor

/- ValidName as a function on lists. -/
namespace Go.Proofs.YtfeciafdioepiaaGreatDoor
open Go.RowKit Go.Proofs Go.Proofs.YtfeciafdioepiaaGreatDoorW.PrintWords Go.Proofs.YtfeciafdioepiaaGreatDoor.PA

theorem bt_mk (l : List UInt8) (i : Nat) (h : i < l.length) : bt (mkS l) (i : Int) = (l[i].toNat : Int) := by
  rw [← rd_bytesOf]
  unfold rd bytesOf
  rw [mkS_toList, Int.toNat_natCast, List.getD_eq_getElem?_getD, List.getElem?_map, List.getElem?_eq_getElem h]; rfl
theorem toList_mk (l : List UInt8) : (mkS l).toList = l := by rw [Lib.toList_data, mkS_toList]
theorem letterF (c : UInt8) : ascii_IsLetter.f (c.toNat : Int) = some (isLetterU c) := by
  refine all_u8 (P := fun c => ascii_IsLetter.f (c.toNat : Int) = some (isLetterU c)) ?_ c
  decide +kernel
theorem digitF (c : UInt8) : ascii_IsDigit.f (c.toNat : Int) = some (isDigitU c) := by
  refine all_u8 (P := fun c => ascii_IsDigit.f (c.toNat : Int) = some (isDigitU c)) ?_ c
  decide +kernel
theorem byte45 (c : UInt8) : ((c.toNat : Int) = 45) ↔ c = 45 := toNat_int c 45 (by omega)
theorem validLoop (l : List UInt8) (hl : l.length ≤ 1000000) : ∀ d k i : Nat, l.length - i = d → d < k → i ≤ l.length →
    field_ValidName.l0 k (mkS l) (l.length : Int) (i : Int) = some ((l.drop i).all nameByte) := by
  have hs := mkS_size l
  intro d
  induction d with
  | zero =>
    intro k i hd hk hi
    obtain ⟨k, rfl⟩ : ∃ m, k = m + 1 := ⟨k - 1, by omega⟩
    simp only [field_ValidName.l0]
    rw [if_neg (by omega), List.drop_eq_nil_of_le (by omega)]; rfl
  | succ d ih =>
    intro k i hd hk hi
    obtain ⟨k, rfl⟩ : ∃ m, k = m + 1 := ⟨k - 1, by omega⟩
    simp only [field_ValidName.l0]
    have hlt : i < l.length := by omega
    have hw : wrap64 ((i : Int) + 1) = ((i + 1 : Nat) : Int) := by unfold wrap64; omega
    rw [if_pos (by omega), if_pos (by omega), if_pos (by omega), bt_mk l i hlt, letterF, List.drop_eq_getElem_cons hlt, List.all_cons]
    simp only [Option.bind_some]
    have hih := ih k (i + 1) (by omega) (by omega) (by omega)
    by_cases h1 : isLetterU l[i] = true
    · rw [if_pos h1, hw, hih]; simp [nameByte, h1]
    · rw [if_neg h1, digitF]
      simp only [Option.bind_some]
      by_cases h2 : isDigitU l[i] = true
      · rw [if_pos h2, hw, hih]; simp [nameByte, h2]
      · rw [if_neg h2]
        by_cases h3 : l[i] = 45
        · rw [if_pos ((byte45 _).2 h3), hw, hih]; simp [nameByte, h3]
        · rw [if_neg (fun h => h3 ((byte45 _).1 h))]; simp [nameByte, h1, h2, h3]
theorem validNameF (l : List UInt8) (hl : l.length ≤ 1000000) : field_ValidName.f (l.length + 2) (mkS l) = some (validNameL l) := by
  have hs := mkS_size l
  unfold field_ValidName.f
  rw [toList_mk]
  have hj : ∀ b, field_ValidName.j0 (l.length + 2) (mkS l) b = if b = true then some false else some (l.all nameByte) := by
    intro b
    simp only [field_ValidName.j0]
    split
    · rfl
    · rw [hs]; exact validLoop l hl l.length _ 0 (by omega) (by omega) (by omega)
  by_cases h0 : l = []
  · subst h0; rw [if_pos rfl, hj]; rfl
  · rw [if_neg h0]; simp only [hj]
    have hpos := List.length_pos_iff.2 h0
    unfold validNameL
    by_cases h1 : 40 < l.length
    · rw [if_pos (by omega), decide_eq_false (by omega)]; rfl
    · rw [if_neg (by omega), if_pos (by omega), decide_eq_true (by omega)]
      have := bt_mk l 0 hpos
      rw [show ((0 : Nat) : Int) = 0 from rfl] at this
      rw [this, letterF]
      simp only [Option.bind_some]
      cases l with
      | nil => exact absurd rfl h0
      | cons c r =>
        simp only [List.getElem_cons_zero]
        rcases Bool.eq_false_or_eq_true (isLetterU c) with hc | hc <;> simp [hc]
end Go.Proofs.YtfeciafdioepiaaGreatDoor

/- The contracts of the parser's method one, and of Parse, over this translation. -/
namespace Go.Proofs.YtfeciafdioepiaaGreatDoor
open Go.RowKit Go.Proofs Go.Proofs.YtfeciafdioepiaaGreatDoorW.PrintWords Go.Proofs.YtfeciafdioepiaaGreatDoorW.PrintLast Go.Proofs.YtfeciafdioepiaaGreatDoor.PA

theorem skip_ {P : Program} {ops : Array Oper} {Q : Exit → Act → World → Prop} {oi : Oper} {N : Option Tmp} {a : Act} {w w1 : World} {K : Act → World → Prop} (hw : Region.wanted oi (yielded ops a.tmps) = true) (hN : oi.dst = N) (hrun : (execOp a.eval oi).run P w = .ok .skip w1)
    (h : K (a.put N undef) w1) : if Region.wanted oi (yielded ops a.tmps) = true then Oper.wp P oi a w K Q else K (a.put N undef) w := by
  rw [if_pos hw]
  subst hN
  unfold Oper.wp
  rw [hrun]
  exact h
theorem wrap64_small {x : Int} (h0 : 0 ≤ x) (h1 : x ≤ 1000000) : wrap64 x = x := by unfold wrap64; omega
theorem pos_sum1 {a b L : Nat} (h2 : a ≤ 65536) (hL : L = b) (hb : b ≤ 65536) : wrap64 ((a : Int) + ((L : Int) + 1)) = ((a + (b + 1) : Nat) : Int) := by
  subst hL; rw [wrap64_small (by omega) (by omega)]; omega
theorem pos_sum2 {a b L : Nat} (h2 : a ≤ 65536) (hL : L = b) (hb : b ≤ 65536) : wrap64 ((a : Int) + wrap64 ((L : Int) + 1)) = ((a + (b + 1) : Nat) : Int) := by
  rw [wrap64_small (x := (L : Int) + 1) (by omega) (by omega)]; exact pos_sum1 h2 hL hb
theorem Pst.setpos {B g : Nat} {v : Value} {w : World} {text : List UInt8} {s : PSt} (h : Pst B g v w text s) (p : Nat) (q : Int) (hq : q = p) :
    Pst B g v (w.setCell ⟨g, 1, none⟩ (.int .i64 q)) text { s with pos := p } := by
  subst hq
  obtain ⟨hB, hb, hR⟩ := h
  exact ⟨hB, (blk_set hb 1 _).trans rfl, Kd.R_set hR hb (by decide) 1 _⟩
theorem Pst.setfs {B g : Nat} {v v1 : Value} {w : World} {text : List UInt8} {s : PSt} {fs : List Fld} (hB : B ≤ g) (hb : w.heap[g]? = some (.cells #[.string (mkS text), .int .i64 s.pos, v, .int .i64 s.place, .int .i64 s.failed] 125 (0, 0))) (hR : Kd.R k76 76 w B (fun _ => True) v1 (fs.map toS)) :
    Pst B g v1 (w.setCell ⟨g, 2, none⟩ v1) text { s with fs := fs } :=
  ⟨hB, (blk_set hb 2 _).trans rfl, Kd.R_set hR hb (by decide) 2 _⟩
theorem Pst.row {B g : Nat} {v : Value} {w : World} {text : List UInt8} {s : PSt} (h : Pst B g v w text s) (hn : s.fs ≠ []) : ∃ gv n cap, v = .slice (some ⟨gv, 0, none⟩) n cap := by
  have := List.length_pos_iff.2 hn
  obtain ⟨gv, cap, hv, _⟩ := Kd.R_form h.2.2 (by simpa using this)
  exact ⟨gv, _, cap, hv⟩
theorem Pst.slice {B g : Nat} {v : Value} {w : World} {text : List UInt8} {s : PSt} (h : Pst B g v w text s) : ∃ A c, v = .slice A s.fs.length c := by
  obtain ⟨A, c, hv⟩ := Kd.R_slice h.2.2
  rw [List.length_map] at hv
  exact ⟨A, c, hv⟩
theorem indexByte_colon (l : List UInt8) : Lib.indexByte l 58 = if colonP l = l.length then -1 else (colonP l : Int) := indexByte_span 58 l

theorem switch_cont0 {line : List UInt8} {s : PSt} (h : contP line = true) (hf : s.fs = []) : switchP line s = failP s s.pos 3 := by unfold switchP; rw [if_pos h, if_pos hf]
theorem switch_cont {line : List UInt8} {s : PSt} (h : contP line = true) (hf : s.fs ≠ []) : switchP line s = bodyP s line 0 := by unfold switchP; rw [if_pos h, if_neg hf]
theorem switch_none {line : List UInt8} {s : PSt} (h : contP line = false) (hc : colonP line = line.length) : switchP line s = failP s s.pos 3 := by unfold switchP; rw [if_neg (by simp [h]), if_pos hc]
theorem switch_name {line : List UInt8} {s : PSt} (h : contP line = false) (hc : colonP line ≠ line.length) (hv : validNameL (line.take (colonP line)) = false) : switchP line s = failP s s.pos 12 := by unfold switchP; rw [if_neg (by simp [h]), if_neg hc, if_pos hv]
theorem switch_limit {line : List UInt8} {s : PSt} (h : contP line = false) (hc : colonP line ≠ line.length) (hv : validNameL (line.take (colonP line)) = true) (h64 : s.fs.length = 64) : switchP line s = failP s s.pos 9 := by unfold switchP; rw [if_neg (by simp [h]), if_neg hc, if_neg (by simp [hv]), if_pos h64]
theorem switch_new {line : List UInt8} {s : PSt} (h : contP line = false) (hc : colonP line ≠ line.length) (hv : validNameL (line.take (colonP line)) = true) (h64 : s.fs.length ≠ 64) : switchP line s = bodyP { s with fs := s.fs ++ [⟨line.take (colonP line), []⟩] } line (colonP line + 1) := by unfold switchP; rw [if_neg (by simp [h]), if_neg hc, if_neg (by simp [hv]), if_neg h64]
theorem failP_pos (s : PSt) (p e : Int) : (failP s p e).pos = s.pos ∧ (failP s p e).fs = s.fs := by unfold failP; split <;> exact ⟨rfl, rfl⟩
theorem lineP_keeps (text : List UInt8) (s : PSt) : (lineP text s).2.pos = s.pos ∧ (lineP text s).2.fs = s.fs := by
  unfold lineP
  dsimp only
  by_cases h : spanL notNl (text.drop s.pos) = (text.drop s.pos).length
  · rw [if_pos h]; exact failP_pos _ _ _
  · rw [if_neg h]
    dsimp only
    split
    · rw [(failP_pos _ _ _).1, (failP_pos _ _ _).2]; split
      · exact failP_pos _ _ _
      · exact ⟨rfl, rfl⟩
    · split
      · exact failP_pos _ _ _
      · exact ⟨rfl, rfl⟩
theorem lineP_len (text : List UInt8) (s : PSt) : (lineP text s).1.length ≤ text.length := by
  unfold lineP
  dsimp only
  by_cases h : spanL notNl (text.drop s.pos) = (text.drop s.pos).length
  · rw [if_pos h]; simp
  · rw [if_neg h]; simp only [List.length_take, List.length_drop]; omega

theorem bodyP_pos (s : PSt) (line : List UInt8) (i : Nat) : (bodyP s line i).pos = s.pos := by
  unfold bodyP
  dsimp only
  split
  · rw [(failP_pos _ _ _).1]; exact (wordsP_fs _ _ _ _).2
  · exact (wordsP_fs _ _ _ _).2
def OnePost (B g : Nat) (text : List UInt8) (s : PSt) (w : World) (e' : Ending) (w' : World) : Prop := e' = .returned (.tuple #[]) ∧ ∃ v', Pst B g v' w' text (oneP text s) ∧ Below B w w'

set_option maxHeartbeats 4000000 in
set_option maxRecDepth 100000 in
theorem one_any (B g : Nat) (v : Value) (text : List UInt8) (s : PSt) (w : World) (h : Pst B g v w text s) (hz : s.failed = 0) (ht : text.length ≤ 65536) (hp : s.pos ≤ text.length) (hb : (lastBody s.fs).length ≤ 65536) (h64 : s.fs.length ≤ 64)
    (hg : Gm w) (hB : 0 < B) (hBw : B ≤ w.heap.size) :
    Calls Tryz.prog 85 #[.pointer (some ⟨g, 0, none⟩)] w (OnePost B g text s w) := by
  have HP := Aside0.mk h
  have hBg := h.1
  have hkp := lineP_keeps text s
  have hll := lineP_len text s
  have hone : oneP text s = if (lineP text s).2.failed ≠ 0 then (lineP text s).2 else { switchP (lineP text s).1 (lineP text s).2 with pos := (switchP (lineP text s).1 (lineP text s).2).pos + ((lineP text s).1.length + 1) } := rfl
  have Hone := Lib.hid hone
  clear h hone
  go_enter Tryz.func85, Tryz.ntmps85
  go_wp2_with fail
  refine (line_any B g v text s _ HP.out hz ht hp).mono ?_
  rintro e w1 ⟨rfl, hp1, hw1⟩
  have HP1 := Aside0.mk hp1
  have HW1 := Aside0.mk hw1
  have Hkp := Lib.hid hkp
  obtain ⟨_, hbk, _⟩ := hp1
  generalize hl : (lineP text s).1 = line at HP1 Hkp hbk Hone hll ⊢
  generalize hs1 : (lineP text s).2 = s1 at HP1 Hkp hbk Hone hll ⊢
  have hc4 := (blk_cell hbk 4).trans rfl
  have hLs := mkS_size line
  have hLt := toList_mk line
  have hHg : Gm w1 := hg.below hw1 hB
  have HHg := Lib.hid hHg
  have HLd : Hid ((mkS line).data.toList = line) := mkS_toList line
  have hB1 : B ≤ w1.heap.size := Nat.le_trans hBw hw1.size
  have hxd := fun n => extract_take line n
  have Hxd := Lib.hid hxd
  generalize hL : mkS line = L at *
  have HL := Lib.hid hL
  have hL1 : L.size ≤ line.length := by omega
  have hL2 : line.length ≤ L.size := by omega
  have HLs := Lib.hid hLs
  have Hll := Lib.hid (Nat.le_trans hll ht)
  have HLt := Lib.hid hLt
  clear hbk hw1 hkp hs1 hl hLs hLt hHg hL hxd
  by_cases hz1 : s1.failed = 0
  · have hzb : (s1.failed != 0) = false := bne_eq_false_iff_eq.2 hz1
    rw [if_neg (by simp [hz1])] at Hone
    have Hz1 := Lib.hid hz1
    clear hz1
    go_upto_region 2 with (fail)
    go_cut [3] (fun v3 wc => v3 = .bool (contP line) ∧ Drawn0 w1 wc)
    case first =>
      cases line with
      | nil =>
        have hlb : (L.toList == ([] : List UInt8)) = true := by rw [HLt.out]; rfl
        have hlb2 : (L.toList != ([] : List UInt8)) = false := by rw [HLt.out]; rfl
        go_wp2
        go_meet
        case rel => exact ⟨rfl, Drawn0.refl _⟩
      | cons c r =>
        have hlb : (L.toList == ([] : List UInt8)) = false := by rw [HLt.out]; rfl
        have hlb2 : (L.toList != ([] : List UInt8)) = true := by rw [HLt.out]; rfl
        have hlt : 0 < L.size := by simp at hL2; omega
        have hix : ∀ h : 0 < L.size, (L[0]'h) = c := by
          intro h
          have h2 : L.data.toList[0]'(by rw [HLd.out]; simp) = c := by simp only [HLd.out]; rfl
          rw [← h2, Array.getElem_toList]; rfl
        have hbf := blankF c
        have Hbf := Lib.hid hbf
        clear hbf
        go_wp2_with (go_at_call 112; refine (ascii_IsBlank.calls _ _ _ Hbf.out).mono ?_; rintro e w' ⟨rfl, ⟨m, rfl⟩⟩)
        go_meet
        case rel => exact ⟨rfl, ⟨⟨m, rfl⟩⟩⟩
    case rest =>
    obtain ⟨rfl, ⟨n2, rfl⟩⟩ := hcut
    have HP2 := Aside0.mk (HP1.out.drewN n2)
    have HW2 := Aside0.mk (pw_below_drewN HW1.out n2)
    have HG2 : Hid (Gm (w1.drewN n2)) := HHg.out
    have hB2 : B ≤ (w1.drewN n2).heap.size := hB1
    clear HP1 HW1 HHg hB1
    generalize w1.drewN n2 = w2 at *
    go_wp2_with fail
    refine (Tryz.strings_IndexByte L 58 _).mono ?_
    rintro e w3 ⟨rfl, rfl⟩
    rw [HLd.out, show (58 : Int).toNat.toUInt8 = 58 from rfl, indexByte_colon]
    obtain ⟨A, cc, rfl⟩ := HP2.out.slice
    obtain ⟨_, hbk, _⟩ := HP2.out
    have hc1 := (blk_cell hbk 1).trans rfl
    have hc2 := (blk_cell hbk 2).trans rfl
    have hf2 := blk_frozen hbk 2
    have HBK := Aside0.mk hbk
    clear hbk
    have hfs : s1.fs.length ≤ 64 := by rw [Hkp.out.2]; exact h64
    have hlb1 : (lastBody s1.fs).length ≤ 65536 := by rw [Hkp.out.2]; exact hb
    have hps : s1.pos ≤ 65536 := by rw [Hkp.out.1]; omega
    rcases Bool.eq_false_or_eq_true (contP line) with hcp | hcp
    · -- the line goes on
      rw [hcp]
      generalize (if colonP line = line.length then (-1 : Int) else (colonP line : Int)) = ci
      by_cases hfe : s1.fs = []
      · have hle : ((s1.fs.length : Int) == 0) = true := by rw [hfe]; rfl
        have Hsw := Lib.hid (switch_cont0 hcp hfe)
        have Hpz : Hid ((failP s1 s1.pos 3).pos ≤ 65536) := by rw [(failP_pos _ _ _).1]; exact hps
        rw [Hsw.out] at Hone
        clear hcp hfe
        go_wp2_with (go_at_call 114; refine (fail_any B g _ text _ _ 3 _ HP2.out).mono ?_; rintro e w' ⟨rfl, hp', hw', hk'⟩; have HPZ := Aside0.mk hp'; have HWZ := Aside0.mk (HW2.out.trans hw'); have hcz := (blk_cell hp'.2.1 1).trans rfl; have hfz := blk_frozen hp'.2.1 1; clear hp' hw' hk')
        go_end0
        refine ⟨rfl, (.slice A s1.fs.length cc), ?_, HWZ.out.setCell (p := ⟨g, 1, none⟩) hBg _⟩
        rw [Hone.out]
        exact HPZ.out.setpos _ _ (by first | exact pos_sum1 Hpz.out HLs.out Hll.out | exact pos_sum2 Hpz.out (mkS_size line) Hll.out)
      · have hle : ((s1.fs.length : Int) == 0) = false := by have := List.length_pos_iff.2 hfe; exact beq_eq_false_iff_ne.2 (by omega)
        have Hsw := Lib.hid (switch_cont (s := s1) hcp hfe)
        have Hpz : Hid ((bodyP s1 line 0).pos ≤ 65536) := by rw [bodyP_pos]; exact hps
        rw [Hsw.out] at Hone
        obtain ⟨gv, nn, cap, hvv⟩ := HP2.out.row hfe
        injection hvv with e1 e2 e3
        subst e1 e2 e3
        have Hfe := Lib.hid hfe
        clear hcp hfe
        go_wp2_with (go_at_call 115; rw [← HL.out]; refine (body_any B g gv _ cc text s1 line 0 _ HP2.out Hfe.out (by omega) (by omega) hlb1 hps HG2.out hB hB2).mono ?_; rintro e w' ⟨rfl, hp', hw'⟩; have HPZ := Aside0.mk hp'; have HWZ := Aside0.mk (HW2.out.trans hw'); have hcz := (blk_cell hp'.2.1 1).trans rfl; have hfz := blk_frozen hp'.2.1 1; clear hp' hw')
        go_end0
        refine ⟨rfl, (.slice (some ⟨gv, 0, none⟩) s1.fs.length cc), ?_, HWZ.out.setCell (p := ⟨g, 1, none⟩) hBg _⟩
        rw [Hone.out]
        exact HPZ.out.setpos _ _ (by first | exact pos_sum1 Hpz.out HLs.out Hll.out | exact pos_sum2 Hpz.out (mkS_size line) Hll.out)
    · -- a field of its own
      rw [hcp]
      by_cases hcol : colonP line = line.length
      · rw [if_pos hcol]
        have Hsw := Lib.hid (switch_none (s := s1) hcp hcol)
        have Hpz : Hid ((failP s1 s1.pos 3).pos ≤ 65536) := by rw [(failP_pos _ _ _).1]; exact hps
        rw [Hsw.out] at Hone
        clear hcp hcol
        go_wp2_with (go_at_call 114; refine (fail_any B g _ text _ _ 3 _ HP2.out).mono ?_; rintro e w' ⟨rfl, hp', hw', hk'⟩; have HPZ := Aside0.mk hp'; have HWZ := Aside0.mk (HW2.out.trans hw'); have hcz := (blk_cell hp'.2.1 1).trans rfl; have hfz := blk_frozen hp'.2.1 1; clear hp' hw' hk')
        go_end0
        refine ⟨rfl, (.slice A s1.fs.length cc), ?_, HWZ.out.setCell (p := ⟨g, 1, none⟩) hBg _⟩
        rw [Hone.out]
        exact HPZ.out.setpos _ _ (by first | exact pos_sum1 Hpz.out HLs.out Hll.out | exact pos_sum2 Hpz.out (mkS_size line) Hll.out)
      · rw [if_neg hcol]
        have hcle : colonP line ≤ line.length := spanL_le _ _
        have hct : (line.take (colonP line)).length = colonP line := by rw [List.length_take]; omega
        have hvn := validNameF (line.take (colonP line)) (by have := Hll.out; omega)
        have Hcp := Lib.hid hcp
        have Hcol := Lib.hid hcol
        rcases Bool.eq_false_or_eq_true (validNameL (line.take (colonP line))) with hv | hv
        · rw [hv] at hvn
          by_cases h6 : s1.fs.length = 64
          · have Hsw := Lib.hid (switch_limit (s := s1) hcp hcol hv h6)
            have Hpz : Hid ((failP s1 s1.pos 9).pos ≤ 65536) := by rw [(failP_pos _ _ _).1]; exact hps
            rw [Hsw.out] at Hone
            have hle : ((s1.fs.length : Int) == 64) = true := beq_iff_eq.2 (by omega)
            have Hvn := Lib.hid hvn
            have hcl2 : colonP line ≤ L.size := by omega
            generalize hq : colonP line = q at *
            clear hcp hcol hv h6 hvn hct hq
            go_wp2_with (first | (go_at_call 116; rw [Hxd.out]; refine (field_ValidName.calls _ _ true _ Hvn.out).mono ?_; rintro e w' ⟨rfl, ⟨m, rfl⟩⟩) | (go_at_call 114; refine (fail_any B g _ text _ _ 9 _ (HP2.out.drewN _)).mono ?_; rintro e w' ⟨rfl, hp', hw', hk'⟩; have HPZ := Aside0.mk hp'; have HWZ := Aside0.mk ((pw_below_drewN HW2.out _).trans hw'); have hcz := (blk_cell hp'.2.1 1).trans rfl; have hfz := blk_frozen hp'.2.1 1; clear hp' hw' hk'))
            go_end0
            refine ⟨rfl, (.slice A s1.fs.length cc), ?_, HWZ.out.setCell (p := ⟨g, 1, none⟩) hBg _⟩
            rw [Hone.out]
            exact HPZ.out.setpos _ _ (by first | exact pos_sum1 Hpz.out HLs.out Hll.out | exact pos_sum2 Hpz.out (mkS_size line) Hll.out)
          · have Hsw := Lib.hid (switch_new (s := s1) hcp hcol hv h6)
            rw [Hsw.out] at Hone
            have hle : ((s1.fs.length : Int) == 64) = false := beq_eq_false_iff_ne.2 (by omega)
            have Hvn := Lib.hid hvn
            have hcl2 : colonP line ≤ L.size := by omega
            have hcl3 : colonP line + 1 ≤ line.length := by omega
            have hfs63 : s1.fs.length ≤ 83 := by omega
            generalize hq : colonP line = q at *
            have hxq := Hxd.out q
            have Hxq := Lib.hid hxq
            clear hcp hcol hv h6 hvn hct hq hxq
            go_wp2_with (go_at_call 116; rw [Hxd.out]; refine (field_ValidName.calls _ _ true _ Hvn.out).mono ?_; rintro e w' ⟨rfl, ⟨m, rfl⟩⟩)
            have HPm := Aside0.mk (HP2.out.drewN (m + 1))
            have HWm := Aside0.mk (pw_below_drewN HW2.out (m + 1))
            have HGm : Hid (Gm (w3.drewN (m + 1))) := HG2.out
            have hBm : B ≤ (w3.drewN (m + 1)).heap.size := hB2
            refine start_ (n := 14) (S := fun w' => w'.cell? ⟨g, 2, none⟩ = some (.slice A s1.fs.length cc)) (ds := [13]) #[false, false, false, false, false, false, false, false, false, false, false, false, false, false] (by kernel_rfl) rfl rfl hc2 (fun hHeld => ?_)
            change wpAnyLast _ _ _ _ _ _ _ _ _ (w3.drewN (m + 1))
            change (w3.drewN (m + 1)).cell? _ = _ at hHeld
            clear HP2 HW2 HG2 hB2 HBK hc1 hc2 hf2
            generalize w3.drewN (m + 1) = w5 at *
            refine pure_ (i := 0) (N := some 21) (v := ?_) (a' := ?_) #[true, false, false, false, false, false, false, false, false, false, false, false, false, false] rfl rfl (by kernel_rfl) (fun _ _ _ h => h) (Or.inl ⟨by rfl, ?_⟩) ?_ ?_
            rotate_left
            · intro w'
              go_simp
              with_reducible rfl
            rotate_left
            · simp only [Act.put, List.setIfInBounds_toArray, List.set_cons_zero, List.set_cons_succ, i64_w, i32_w]
              rfl
            refine pure_ (i := 1) (N := some 22) (v := ?_) (a' := ?_) #[true, true, false, false, false, false, false, false, false, false, false, false, false, false] rfl rfl (by kernel_rfl) (fun _ _ _ h => h) (Or.inl ⟨by rfl, ?_⟩) ?_ ?_
            rotate_left
            · intro w'
              go_simp
              with_reducible rfl
            rotate_left
            · simp only [Act.put, List.setIfInBounds_toArray, List.set_cons_zero, List.set_cons_succ, i64_w, i32_w]
              rfl
            refine pure_ (i := 2) (N := some 23) (v := ?_) (a' := ?_) #[true, true, true, false, false, false, false, false, false, false, false, false, false, false] rfl rfl (by kernel_rfl) (fun _ _ _ h => h) (Or.inl ⟨by rfl, ?_⟩) ?_ ?_
            rotate_left
            · intro w'
              go_simp
              with_reducible rfl
            rotate_left
            · simp only [Act.put, List.setIfInBounds_toArray, List.set_cons_zero, List.set_cons_succ, i64_w, i32_w]
              rfl
            refine pure_ (i := 3) (N := some 24) (v := ?_) (a' := ?_) #[true, true, true, true, false, false, false, false, false, false, false, false, false, false] rfl rfl (by kernel_rfl) (fun _ _ _ h => h) (Or.inl ⟨by rfl, ?_⟩) ?_ ?_
            rotate_left
            · intro w'
              go_simp
              with_reducible rfl
            rotate_left
            · simp only [Act.put, List.setIfInBounds_toArray, List.set_cons_zero, List.set_cons_succ, i64_w, i32_w]
              rfl
            refine take_ (i := 4) (N := some 25) (v := ?_) (a' := ?_) #[true, true, true, true, true, false, false, false, false, false, false, false, false, false] rfl rfl (by kernel_rfl) (fun _ _ _ h => h) (Or.inl ⟨by rfl, ?_⟩) hHeld ?_ ?_
            rotate_left
            · rintro w' s0
              go_simp
              with_reducible rfl
            rotate_left
            · simp only [Act.put, List.setIfInBounds_toArray, List.set_cons_zero, List.set_cons_succ, i64_w, i32_w]
              rfl
            refine pure_ (i := 5) (N := some 26) (v := ?_) (a' := ?_) #[true, true, true, true, true, true, false, false, false, false, false, false, false, false] rfl rfl (by kernel_rfl) (fun _ _ _ h => h) (Or.inl ⟨by rfl, ?_⟩) ?_ ?_
            rotate_left
            · intro w'
              go_simp
              with_reducible rfl
            rotate_left
            · simp only [Act.put, List.setIfInBounds_toArray, List.set_cons_zero, List.set_cons_succ, i64_w, i32_w]
              rfl
            refine pure_ (i := 6) (N := some 27) (v := ?_) (a' := ?_) #[true, true, true, true, true, true, true, false, false, false, false, false, false, false] rfl rfl (by kernel_rfl) (fun _ _ _ h => h) (Or.inl ⟨by rfl, ?_⟩) ?_ ?_
            rotate_left
            · intro w'
              go_simp
              with_reducible rfl
            rotate_left
            · simp only [Act.put, List.setIfInBounds_toArray, List.set_cons_zero, List.set_cons_succ, i64_w, i32_w]
              rfl
            refine pure_ (i := 7) (N := some 28) (v := ?_) (a' := ?_) #[true, true, true, true, true, true, true, true, false, false, false, false, false, false] rfl rfl (by kernel_rfl) (fun _ _ _ h => h) (Or.inl ⟨by rfl, ?_⟩) ?_ ?_
            rotate_left
            · intro w'
              go_simp
              with_reducible rfl
            rotate_left
            · simp only [Act.put, List.setIfInBounds_toArray, List.set_cons_zero, List.set_cons_succ, i64_w, i32_w]
              rfl
            refine pure_ (i := 8) (N := some 29) (v := ?_) (a' := ?_) #[true, true, true, true, true, true, true, true, true, false, false, false, false, false] rfl rfl (by kernel_rfl) (fun _ _ _ h => h) (Or.inl ⟨by rfl, ?_⟩) ?_ ?_
            rotate_left
            · intro w'
              go_simp
              with_reducible rfl
            rotate_left
            · simp only [Act.put, List.setIfInBounds_toArray, List.set_cons_zero, List.set_cons_succ, i64_w, i32_w]
              rfl
            refine one_ (i := 9) (N := some 30) #[true, true, true, true, true, true, true, true, true, true, false, false, false, false] rfl rfl (by kernel_rfl) (by decide) (fun K hK => ?_)
            refine value_ (w1 := ?_) (v := ?_) (by rfl) rfl ?_ ?_
            rotate_left 2
            · go_simp
              constructor
              · rfl
              · rfl
            refine hK.out _ _ ((World.cell?_alloc_lt _ _ _ (World.block_lt_of_cell? _ _ hHeld)).trans hHeld) (fun hHeld => ?_)
            clear hK K
            refine norm_ (a' := ?_) ?_ ?_
            rotate_left
            · show Act.put _ (some 30) _ = _
              simp only [Act.put, List.setIfInBounds_toArray, List.set_cons_zero, List.set_cons_succ, i64_w, i32_w]
              rfl
            refine one_ (i := 10) (N := some 31) #[true, true, true, true, true, true, true, true, true, true, true, false, false, false] rfl rfl (by kernel_rfl) (by decide) (fun K hK => ?_)
            refine Kd.R_append_step k76 (w0 := w5) B (by rfl) (.tmp 25) (.tmp 30) 23 76 (.agg #[(.string ⟨#[]⟩), (.string ⟨#[]⟩)]) 32 rfl Tryz.underlying23 info76 rfl (by decide) (by omega) (.slice A s1.fs.length cc) (s1.fs.map toS) (toS ⟨line.take q, []⟩) [.string (L.extract 0 q), .string ⟨#[]⟩] (fun _ => True) (fun _ => False) rfl rfl ?aP (fun _ hk => hk.elim) (fun _ _ => trivial) HPm.out.2.2 (Below.refl _ _) hBm ?aL ?_
            (case aP => rw [Hxq.out]; exact k76_mkM _ _ _ _)
            (case aL => rw [List.length_map]; omega)
            intro v6 w6 hR6 hb6 hg6 _
            have hne6 := Kd.R_ne HPm.out.2.2 HPm.out.2.1 (by decide)
            have hbk6 := blk_grown HPm.out.2.1 hg6 hne6
            have hmap : s1.fs.map toS ++ [toS ⟨line.take q, []⟩] = (s1.fs ++ [(⟨line.take q, []⟩ : Fld)]).map toS := by simp
            rw [hmap] at hR6
            have HR6 := Aside0.mk hR6
            have HB6 := Aside0.mk hbk6
            have HW6 := Aside0.mk (HWm.out.trans hb6)
            have HG6 : Hid (Gm w6) := HGm.out.below hb6 hB
            have hB6 : B ≤ w6.heap.size := Nat.le_trans hBm hb6.size
            have hc6 := (blk_cell hbk6 2).trans rfl
            have hf6 := blk_frozen hbk6 2
            obtain ⟨g6, n6, c6, rfl⟩ : ∃ g n c, v6 = .slice (some ⟨g, 0, none⟩) n c := by obtain ⟨g_, c_, h_, _⟩ := Kd.R_form hR6 (by simp); exact ⟨_, _, _, h_⟩
            clear hR6 hb6 hg6 hbk6 hmap HPm HWm HGm hBm hHeld
            refine hK.out _ _ hc6 (fun hHeld => ?_)
            clear hK K
            refine norm_ (a' := ?_) ?_ ?_
            rotate_left
            · show Act.put _ (some 31) _ = _
              simp only [Act.put, List.setIfInBounds_toArray, List.set_cons_zero, List.set_cons_succ, i64_w, i32_w]
              rfl
            refine pure_ (i := 11) (N := some 32) (v := ?_) (a' := ?_) #[true, true, true, true, true, true, true, true, true, true, true, true, false, false] rfl rfl (by kernel_rfl) (fun _ _ _ h => h) (Or.inl ⟨by rfl, ?_⟩) ?_ ?_
            rotate_left
            · intro w'
              go_simp
              with_reducible rfl
            rotate_left
            · simp only [Act.put, List.setIfInBounds_toArray, List.set_cons_zero, List.set_cons_succ, i64_w, i32_w]
              rfl
            refine pure_ (i := 12) (N := some 33) (v := ?_) (a' := ?_) #[true, true, true, true, true, true, true, true, true, true, true, true, true, false] rfl rfl (by kernel_rfl) (fun _ _ _ h => h) (Or.inl ⟨by rfl, ?_⟩) ?_ ?_
            rotate_left
            · intro w'
              go_simp
              with_reducible rfl
            rotate_left
            · simp only [Act.put, List.setIfInBounds_toArray, List.set_cons_zero, List.set_cons_succ, i64_w, i32_w]
              rfl
            refine last_ (i := 13) (N := none) #[true, true, true, true, true, true, true, true, true, true, true, true, true, true] rfl rfl (by kernel_rfl) (by decide) (fun K hK => ?_)
            refine skip_ (w1 := ?_) (by rfl) rfl ?_ ?_
            rotate_left
            · go_simp
              rfl
            refine hK.out _ _ ?_
            clear hK K
            refine done_ (by kernel_rfl) ?_
            have hP7 : Pst B g (.slice (some ⟨g6, 0, none⟩) n6 c6) (w6.setCell ⟨g, 2, none⟩ (.slice (some ⟨g6, 0, none⟩) n6 c6)) text { s1 with fs := s1.fs ++ [⟨line.take q, []⟩] } := Pst.setfs hBg HB6.out HR6.out
            have hW7 : Below B w (w6.setCell ⟨g, 2, none⟩ (.slice (some ⟨g6, 0, none⟩) n6 c6)) := HW6.out.setCell (p := ⟨g, 2, none⟩) hBg _
            have hG7 := HG6.out.below (B := B) ((Below.refl B w6).setCell (p := ⟨g, 2, none⟩) hBg (.slice (some ⟨g6, 0, none⟩) n6 c6)) hB
            have HP7 := Aside0.mk hP7
            have HW7 := Aside0.mk hW7
            have HG7 := Lib.hid hG7
            have hB7 : B ≤ (w6.setCell ⟨g, 2, none⟩ (.slice (some ⟨g6, 0, none⟩) n6 c6)).heap.size := Nat.le_trans hBw hW7.size
            have hne7 : (s1.fs ++ [(⟨line.take q, []⟩ : Fld)]) ≠ [] := by simp
            have hlb7 : (lastBody (s1.fs ++ [(⟨line.take q, []⟩ : Fld)])).length ≤ 65536 := by rw [lastBody_eq _ hne7]; simp
            have Hpz : Hid ((bodyP { s1 with fs := s1.fs ++ [⟨line.take q, []⟩] } line (q + 1)).pos ≤ 65536) := by rw [bodyP_pos]; exact hps
            clear hP7 hW7 hG7
            generalize (w6.setCell ⟨g, 2, none⟩ (.slice (some ⟨g6, 0, none⟩) n6 c6)) = w7 at *
            go_wp2_with (go_at_call 115; rw [← HL.out, show ((q : Int) + 1) = ((q + 1 : Nat) : Int) from by omega]; refine (body_any B g g6 n6 c6 text { s1 with fs := s1.fs ++ [⟨line.take q, []⟩] } line (q + 1) _ HP7.out hne7 hcl3 (by omega) hlb7 hps HG7.out hB hB7).mono ?_; rintro e w' ⟨rfl, hp', hw'⟩; have HPZ := Aside0.mk hp'; have HWZ := Aside0.mk (HW7.out.trans hw'); have hcz := (blk_cell hp'.2.1 1).trans rfl; have hfz := blk_frozen hp'.2.1 1; clear hp' hw')
            go_end0
            refine ⟨rfl, (.slice (some ⟨g6, 0, none⟩) n6 c6), ?_, HWZ.out.setCell (p := ⟨g, 1, none⟩) hBg _⟩
            rw [Hone.out]
            exact HPZ.out.setpos _ _ (by first | exact pos_sum1 Hpz.out HLs.out Hll.out | exact pos_sum2 Hpz.out (mkS_size line) Hll.out)
        · rw [hv] at hvn
          have Hsw := Lib.hid (switch_name (s := s1) hcp hcol hv)
          have Hpz : Hid ((failP s1 s1.pos 12).pos ≤ 65536) := by rw [(failP_pos _ _ _).1]; exact hps
          rw [Hsw.out] at Hone
          have Hvn := Lib.hid hvn
          have hcl2 : colonP line ≤ L.size := by omega
          generalize hq : colonP line = q at *
          clear hcp hcol hv hvn hct hq
          go_wp2_with (first | (go_at_call 116; rw [Hxd.out]; refine (field_ValidName.calls _ _ false _ Hvn.out).mono ?_; rintro e w' ⟨rfl, ⟨m, rfl⟩⟩) | (go_at_call 114; refine (fail_any B g _ text _ _ 12 _ (HP2.out.drewN _)).mono ?_; rintro e w' ⟨rfl, hp', hw', hk'⟩; have HPZ := Aside0.mk hp'; have HWZ := Aside0.mk ((pw_below_drewN HW2.out _).trans hw'); have hcz := (blk_cell hp'.2.1 1).trans rfl; have hfz := blk_frozen hp'.2.1 1; clear hp' hw' hk'))
          go_end0
          refine ⟨rfl, (.slice A s1.fs.length cc), ?_, HWZ.out.setCell (p := ⟨g, 1, none⟩) hBg _⟩
          rw [Hone.out]
          exact HPZ.out.setpos _ _ (by first | exact pos_sum1 Hpz.out HLs.out Hll.out | exact pos_sum2 Hpz.out (mkS_size line) Hll.out)
  · have hzb : (s1.failed != 0) = true := bne_iff_ne.2 hz1
    rw [if_pos hz1] at Hone
    clear hz1
    go_wp2
    first | go_end0 | ((try simp only [Exit.inBlock, Exit.then]); refine bodyPost_ret (results_none rfl _ _ _) rfl ?_)
    refine ⟨rfl, v, ?_, HW1.out⟩
    rw [Hone.out]; exact HP1.out

end Go.Proofs.YtfeciafdioepiaaGreatDoor

/- Plain: what a line leaves. -/
namespace Go.Proofs.YtfeciafdioepiaaGreatDoor
theorem failP_failed0 {s : PSt} {p e : Int} (he : e ≠ 0) : (failP s p e).failed ≠ 0 := by unfold failP; split <;> simp_all
theorem lineP_ok {text : List UInt8} {s : PSt} (h : (lineP text s).2.failed = 0) :
    (lineP text s).1 = (text.drop s.pos).take (spanL notNl (text.drop s.pos)) ∧ spanL notNl (text.drop s.pos) < (text.drop s.pos).length ∧ (lineP text s).2 = s ∧ spanL notNl (text.drop s.pos) ≤ 998 := by
  unfold lineP at h ⊢
  dsimp only at h ⊢
  have hle := spanL_le notNl (text.drop s.pos)
  by_cases hn : spanL notNl (text.drop s.pos) = (text.drop s.pos).length
  · rw [if_pos hn] at h; exact absurd h (failP_failed0 (by decide))
  · rw [if_neg hn] at h ⊢
    dsimp only at h ⊢
    split at h
    · exact absurd h (failP_failed0 (by decide))
    · split at h
      · exact absurd h (failP_failed0 (by decide))
      · rename_i h1 h2
        rw [if_neg h1, if_neg h2]
        exact ⟨rfl, by omega, rfl, by omega⟩
theorem lastBody_setBody (fs : List Fld) (b : List UInt8) (hn : fs ≠ []) : lastBody (setBody fs b) = b := by
  unfold setBody
  rw [List.getLast?_eq_some_getLast hn]
  simp [lastBody]
theorem bodyP_ok {s : PSt} {line : List UInt8} {i : Nat} (hn : s.fs ≠ []) (h : (bodyP s line i).failed = 0) :
    (bodyP s line i).pos = s.pos ∧ (bodyP s line i).fs.length = s.fs.length ∧ (bodyP s line i).fs ≠ [] ∧ (lastBody (bodyP s line i).fs).length ≤ 8192 := by
  unfold bodyP at h ⊢
  dsimp only at h ⊢
  have hw := wordsP_fs line (wordsL (line.drop i)) i s
  split at h
  · exact absurd h (failP_failed0 (by decide))
  · rename_i h1
    rw [if_neg h1]
    dsimp only
    rw [hw.1, hw.2]
    refine ⟨rfl, setBody_length _ _, ?_, ?_⟩
    · intro e
      have := setBody_length s.fs (joinW (wordsL (lastBody s.fs) ++ wordsL (line.drop i)))
      rw [e] at this
      have := List.length_pos_iff.2 hn
      simp at *; omega
    · rw [lastBody_setBody _ _ hn]; omega
/-- What holds between two lines. -/
structure InvP (text : List UInt8) (s : PSt) : Prop where
  pos : s.pos ≤ text.length
  fs : s.fs.length ≤ 64
  body : (lastBody s.fs).length ≤ 8192
theorem oneP_inv {text : List UInt8} {s : PSt} (hi : InvP text s) (h : (oneP text s).failed = 0) :
    InvP text (oneP text s) ∧ s.pos < (oneP text s).pos := by
  unfold oneP at h ⊢
  dsimp only at h ⊢
  by_cases h1 : (lineP text s).2.failed ≠ 0
  · rw [if_pos h1] at h; exact absurd h h1
  · rw [if_neg h1] at h ⊢
    have h1' : (lineP text s).2.failed = 0 := by simpa using h1
    obtain ⟨hl, hlt, hs, _⟩ := lineP_ok h1'
    have hll : (lineP text s).1.length = spanL notNl (text.drop s.pos) := by rw [hl, List.length_take]; omega
    rw [hs] at h ⊢
    generalize (lineP text s).1 = line at *
    have hp := hi.pos
    have hdl : (text.drop s.pos).length = text.length - s.pos := by simp
    have key : (switchP line s).failed = 0 → (switchP line s).pos = s.pos ∧ (switchP line s).fs.length ≤ 64 ∧ (lastBody (switchP line s).fs).length ≤ 8192 := by
      intro hk
      unfold switchP at hk ⊢
      split at hk
      · split at hk
        · exact absurd hk (failP_failed0 (by decide))
        · rename_i c1 c2
          rw [if_pos c1, if_neg c2]
          obtain ⟨a, b, _, d⟩ := bodyP_ok c2 hk
          exact ⟨a, by rw [b]; exact hi.fs, d⟩
      · split at hk
        · exact absurd hk (failP_failed0 (by decide))
        · split at hk
          · exact absurd hk (failP_failed0 (by decide))
          · split at hk
            · exact absurd hk (failP_failed0 (by decide))
            · rename_i c1 c2 c3 c4
              rw [if_neg c1, if_neg c2, if_neg c3, if_neg c4]
              obtain ⟨a, b, _, d⟩ := bodyP_ok (by simp) hk
              have := hi.fs
              exact ⟨a, by rw [b]; simp; omega, d⟩
    obtain ⟨k1, k2, k3⟩ := key h
    refine ⟨⟨?_, k2, k3⟩, ?_⟩
    · show (switchP line s).pos + (line.length + 1) ≤ _
      rw [k1]; omega
    · show s.pos < (switchP line s).pos + (line.length + 1)
      rw [k1]; omega
end Go.Proofs.YtfeciafdioepiaaGreatDoor

/- The contract of field.Parse over this translation. -/
namespace Go.Proofs.YtfeciafdioepiaaGreatDoor
open Go.RowKit Go.Proofs Go.Proofs.YtfeciafdioepiaaGreatDoorW.PrintWords Go.Proofs.YtfeciafdioepiaaGreatDoor.PA

def ParsePost (s : ByteArray) (w : World) (e : Ending) (w' : World) : Prop := ∃ v0_ : Value, e = .returned (.tuple #[v0_, .int .i64 (parseP s.data.toList).2.1, .int .i64 (parseP s.data.toList).2.2]) ∧ Kd.R k76 76 w' w.heap.size (fun _ => True) v0_ ((parseP s.data.toList).1.map toS) ∧ Below w.heap.size w w'
/-- The last state of the loop. -/
def endP (text : List UInt8) : PSt := loopP text (text.length + 1) ⟨0, [], 0, 0⟩
theorem parse_end {text : List UInt8} (h : text.length ≤ 65536) : parseP text = if (endP text).failed ≠ 0 then ([], (endP text).place, (endP text).failed) else ((endP text).fs, 0, 0) := by
  unfold parseP; rw [if_neg (by omega)]; rfl

set_option maxHeartbeats 4000000 in
set_option maxRecDepth 100000 in
theorem parse_any (s : ByteArray) (w : World) (hg : Gm w) (hs : s.size ≤ 140737488351232) : Calls Tryz.prog 59 #[.string s] w (ParsePost s w) := by
  have hlen : s.data.toList.length = s.size := by simp
  have hB : 0 < w.heap.size := by
    obtain ⟨m, hm⟩ := hg
    exact Nat.lt_of_le_of_lt (Nat.zero_le _) (World.block_lt_of_cell? w _ hm)
  by_cases hl : 65536 < s.size
  · have hres : parseP s.data.toList = ([], 65536, 5) := by unfold parseP; rw [if_pos (by omega)]
    have Hres := Lib.hid hres
    clear hres hlen
    go_enter Tryz.func59, Tryz.ntmps59
    go_wp2
    go_ret3
    exact ⟨.slice none 0 0, by rw [Hres.out]; rfl, by rw [Hres.out]; exact Kd.R_nil _ _ _ _ _, Below.refl _ _⟩
  · have hpe := parse_end (text := s.data.toList) (by omega)
    have hsd : mkS s.data.toList = s := mkS_data s
    generalize ht : s.data.toList = text at *
    have Ht := Lib.hid ht
    have Hlen := Lib.hid hlen
    have Hpe := Lib.hid hpe
    have htl : text.length ≤ 65536 := by omega
    have ht2 : text.length ≤ s.size := by omega
    have ht3 : s.size ≤ text.length := by omega
    have HP0 : Aside0 (Pst w.heap.size w.heap.size (.slice none 0 0) (w.alloc (.cells #[.string s, .int .i64 0, .slice none 0 0, .int .i64 0, .int .i64 0] 125)) text ⟨0, [], 0, 0⟩) := by
      refine ⟨⟨Nat.le_refl _, ?_, Kd.R_nil _ _ _ _ _⟩⟩
      rw [hsd]
      simpa using heap_alloc_new w (.cells #[.string s, .int .i64 0, .slice none 0 0, .int .i64 0, .int .i64 0] 125)
    have Hsd := Lib.hid hsd
    clear ht hlen hpe hsd
    go_enter Tryz.func59, Tryz.ntmps59
    go_wp2
    go_loopg [] (text.length + 1) (fun kq wr => ∃ (st : PSt) (v : Value), Aside0 (Pst w.heap.size w.heap.size v wr text st) ∧ Aside0 (Below w.heap.size w wr) ∧ Aside0 (loopP text kq st = endP text) ∧ Aside0 (st.failed = 0 → InvP text st ∧ text.length + 1 ≤ kq + st.pos))
    case atStart => exact ⟨⟨0, [], 0, 0⟩, .slice none 0 0, HP0, ⟨(Below.refl _ _).alloc (Nat.le_refl _) _⟩, ⟨rfl⟩, ⟨fun _ => ⟨⟨by simp, by simp, by simp [lastBody]⟩, by simp⟩⟩⟩
    case round =>
      obtain ⟨st, v, HP, HW, HE, HI⟩ := hrel
      obtain ⟨_, hbk, _⟩ := HP.out
      have hc1 := (blk_cell hbk 1).trans rfl
      have hc2 := (blk_cell hbk 2).trans rfl
      have hc3 := (blk_cell hbk 3).trans rfl
      have hc4 := (blk_cell hbk 4).trans rfl
      clear hbk
      by_cases hz : st.failed = 0
      · obtain ⟨hinv, hfuel⟩ := HI.out hz
        have hzb : (st.failed == 0) = true := beq_iff_eq.2 hz
        have hzb2 : (st.failed != 0) = false := bne_eq_false_iff_eq.2 hz
        have Hinv := Aside0.mk hinv
        have hpos := hinv.pos
        have hE := HE.out
        by_cases hlt : st.pos < text.length
        · obtain ⟨gk, rfl⟩ : ∃ m, gk = m + 1 := ⟨gk - 1, by omega⟩
          have hE2 : loopP text gk (oneP text st) = endP text := by
            rw [← hE]; conv => rhs; unfold loopP
            rw [if_pos ⟨hz, hlt⟩]
          have hnext := fun h => oneP_inv (s := st) hinv h
          have HE2 := Lib.hid hE2
          have Hnext := Lib.hid hnext
          have Hz := Lib.hid hz
          have Hgw : Hid (Gm wr) := hg.below HW.out hB
          have hBw : w.heap.size ≤ wr.heap.size := HW.out.size
          clear hz hinv hE hE2 hnext HE HI
          go_wp2_with (go_at_call 85; refine (one_any w.heap.size w.heap.size v text st _ HP.out Hz.out htl hpos (Nat.le_trans Hinv.out.body (by omega)) Hinv.out.fs Hgw.out hB hBw).mono ?_; rintro e w' ⟨rfl, v2, hp2, hw2⟩; have HP2 := Aside0.mk hp2; have HW2 := Aside0.mk (HW.out.trans hw2); clear hp2 hw2)
          go_roundg gk
          case measure => omega
          case rel => exact ⟨oneP text st, v2, HP2, HW2, ⟨HE2.out⟩, ⟨fun h => ⟨(Hnext.out h).1, by have := (Hnext.out h).2; omega⟩⟩⟩
        · have hE2 : st = endP text := by
            rw [← hE]
            cases gk with
            | zero => rfl
            | succ m => conv => rhs; unfold loopP
                        rw [if_neg (fun h => hlt h.2)]
          have hres : parseP text = (st.fs, 0, 0) := by rw [Hpe.out, ← hE2, if_neg (by simp [hz])]
          have Hres := Lib.hid hres
          clear hz hinv hE hE2 HE HI hres
          go_wp2
          go_ret3
          exact ⟨v, by rw [Ht.out, Hres.out]; rfl, by rw [Ht.out, Hres.out]; exact HP.out.2.2, HW.out⟩
      · have hzb : (st.failed == 0) = false := beq_eq_false_iff_ne.2 hz
        have hzb2 : (st.failed != 0) = true := bne_iff_ne.2 hz
        have hE := HE.out
        have hE2 : st = endP text := by
          rw [← hE]
          cases gk with
          | zero => rfl
          | succ m => conv => rhs; unfold loopP
                      rw [if_neg (fun h => hz h.1)]
        have hres : parseP text = ([], st.place, st.failed) := by rw [Hpe.out, ← hE2, if_pos hz]
        have Hres := Lib.hid hres
        clear hz hE hE2 HE HI hres
        go_wp2
        go_quiet (fail)
        go_wp2
        go_ret3
        exact ⟨.slice none 0 0, by rw [Ht.out, Hres.out]; rfl, by rw [Ht.out, Hres.out]; exact Kd.R_nil _ _ _ _ _, pw_below_drewN HW.out _⟩

end Go.Proofs.YtfeciafdioepiaaGreatDoor

/- Contracts proved by hand, in the printed form. -/
namespace Go.Proofs.YtfeciafdioepiaaGreatDoor.GV
open Go.RowKit Go.Proofs Go.Proofs.YtfeciafdioepiaaGreatDoorW.PrintWords Go.Proofs.YtfeciafdioepiaaGreatDoor.PA

def Words.f (s : ByteArray) : Option (List ByteArray) := if s.size ≤ 8796093022208 then some (wordsB s) else none
theorem Words.calls (a0 : ByteArray) (r : List ByteArray) (w : World) (h : Words.f a0 = some r) :
    Calls Tryz.prog 90 #[.string a0] w fun e w' => ∃ v0_ : Value, e = .returned v0_ ∧ Kd.R Kd.string 9 w' w.heap.size (fun _ => True) v0_ r ∧ Below w.heap.size w w' := by
  unfold Words.f at h
  split at h
  · injection h with h; subst h; exact ascii_Words.calls a0 w (by assumption)
  · cases h
def Printable.f (s : ByteArray) : Option Int := if s.size ≤ 140737488355328 then some (printableZ s.data.toList) else none
theorem Printable.calls (a0 : ByteArray) (r : Int) (w : World) (h : Printable.f a0 = some r) :
    Calls Tryz.prog 117 #[.string a0] w fun e w' => e = .returned (.int .i64 r) ∧ Drawn0 w w' := by
  unfold Printable.f at h
  split at h
  · injection h with h; subst h; exact printable_any a0 w (by assumption)
  · cases h
def Join.f (l : List ByteArray) (sep : ByteArray) : Option ByteArray := if l.length ≤ 140737488355328 ∧ (joinB l sep).size ≤ 140737488355328 then some (joinB l sep) else none
theorem Join.calls (A0 : Option Addr) (c0 : Nat) (l0 : List ByteArray) (a1 : ByteArray) (r : ByteArray) (w : World) (hr0 : Kd.C Kd.string w A0 l0.length l0) (hc0 : l0.length ≤ c0) (h : Join.f l0 a1 = some r) :
    Calls Tryz.prog 118 #[.slice A0 l0.length c0, .string a1] w fun e w' => e = .returned (.string r) ∧ Below w.heap.size w w' := by
  unfold Join.f at h
  split at h
  · rename_i hh; injection h with h; subst h; exact join_any A0 c0 l0 a1 w hr0 hc0 hh.1 hh.2
  · cases h
def isLongV : Value → Bool
  | .func (.func n) first cap => n == 120 && first.isEmpty && cap.isEmpty
  | _ => false
theorem isLongV_eq {v : Value} (h : isLongV v = true) : v = .func (.func 120) #[] #[] := by
  unfold isLongV at h
  split at h
  · simp at h; obtain ⟨⟨rfl, rfl⟩, rfl⟩ := h; rfl
  · cases h
def someLong.f (l : List ByteArray) (v : Value) : Option Bool := if l.length ≤ 140737488355328 ∧ isLongV v = true then some (l.any fun x => decide (900 < x.size)) else none
theorem someLong.calls (A0 : Option Addr) (c0 : Nat) (l0 : List ByteArray) (a1 : Value) (r : Bool) (w : World) (hr0 : Kd.C Kd.string w A0 l0.length l0) (hc0 : l0.length ≤ c0) (h : someLong.f l0 a1 = some r) :
    Calls Tryz.prog 119 #[.slice A0 l0.length c0, a1] w fun e w' => e = .returned (.bool r) ∧ Drawn0 w w' := by
  unfold someLong.f at h
  split at h
  · rename_i hh; injection h with h; subst h; obtain ⟨hh, hv⟩ := hh; rw [isLongV_eq hv]; exact some_long A0 c0 l0 w hr0 hc0 hh
  · cases h
end Go.Proofs.YtfeciafdioepiaaGreatDoor.GV
