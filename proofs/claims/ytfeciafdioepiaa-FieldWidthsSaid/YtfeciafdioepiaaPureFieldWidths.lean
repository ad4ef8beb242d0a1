/- Plain: the law of the widths. -/
import Derived.Test.YtfeciafdioepiaaQ3
import Derived.Test.YtfeciafdioepiaaQ2
import Derived.Test.YtfeciafdioepiaaPC2
set_option linter.unusedVariables false
set_option linter.unusedSimpArgs false
namespace Go.Proofs.Ytfeciafdioepiaa
open Go.RowKit Go.Proofs Go.Proofs.YtfeciafdioepiaaW.PrintWords Go.Proofs.Ytfeciafdioepiaa.PA

theorem widths_skip (s : List UInt8) (hl : s.length ≤ 1000000) (x5 x6 : Int) (n b : ByteArray) (R : Bool) (q : Nat) (hq : q < s.length) (h : Ev (fun k => PC.bulletinlaw09_FieldWidths.l0 k (mkS s) x5 x6 (q : Int) n b) R) :
    ∀ d i : Nat, q - i = d → i ≤ q → (∀ j (hj : j < s.length), i ≤ j → j < q → s[j] ≠ 10) → Ev (fun k => PC.bulletinlaw09_FieldWidths.l0 k (mkS s) x5 x6 (i : Int) n b) R := by
  have hs := mkS_size s
  intro d
  induction d with
  | zero =>
    intro i hd hi _
    obtain rfl : i = q := by omega
    exact h
  | succ d ih =>
    intro i hd hi hno
    have hit : i < s.length := by omega
    have h10 := hno i hit (Nat.le_refl _) (by omega)
    refine Ev.next ?_
    simp only [PC.bulletinlaw09_FieldWidths.l0]
    rw [bt_mk s i hit, wrap_nat i (by omega)]
    exact Ev.ite_pos (by omega) (Ev.ite_pos (by omega) (Ev.ite_neg (fun e => h10 ((byte10 _).1 e)) (ih (i + 1) (by omega) (by omega) (fun j hj h1 h2 => hno j hj (by omega) h2))))
theorem drop_parts {s line rest : List UInt8} {p : Nat} (h : s.drop p = line ++ 10 :: rest) (hno : ∀ c ∈ line, notNl c = true) :
    ∃ hlt : p + line.length < s.length, s[p + line.length] = 10 ∧ (∀ j (hj : j < s.length), p ≤ j → j < p + line.length → s[j] ≠ 10) ∧ (s.drop p).take line.length = line ∧ s.drop (p + (line.length + 1)) = rest := by
  have hlen : s.length - p = line.length + (rest.length + 1) := by
    have := congrArg List.length h
    rw [List.length_drop, List.length_append, List.length_cons] at this; exact this
  have hget : ∀ i (hi : i < (s.drop p).length), (s.drop p)[i] = (line ++ 10 :: rest)[i]'(by rw [← h]; exact hi) := fun i hi => by simp only [h]
  refine ⟨by omega, ?_, ?_, by rw [h]; simp, ?_⟩
  · have := hget line.length (by rw [List.length_drop]; omega)
    rw [List.getElem_drop] at this
    rw [this]; simp
  · intro j hj h1 h2
    have := hget (j - p) (by rw [List.length_drop]; omega)
    rw [List.getElem_drop] at this
    have e : s[p + (j - p)]'(by omega) = s[j] := by congr 1; omega
    rw [e, List.getElem_append_left (by omega)] at this
    have hm := hno (line[j - p]'(by omega)) (List.getElem_mem _)
    rw [← this] at hm
    intro e10
    rw [e10] at hm
    exact absurd hm (by decide)
  · rw [← List.drop_drop, h]
    have : line.length + 1 = (line ++ [10]).length := by simp
    rw [this, show line ++ 10 :: rest = (line ++ [10]) ++ rest by simp, List.drop_left]
/-- The first line. -/
theorem width_first (s : List UInt8) (hl : s.length ≤ 1000000) (n b : ByteArray) (hn : n.size ≤ 1000) (x6 : Int) (line rest : List UInt8) (h : s = line ++ 10 :: rest) (hno : ∀ c ∈ line, notNl c = true) (hnl : n.size + 1 ≤ line.length) (hw : line.length ≤ 78 ∨ (wordsL (line.drop (n.size + 1))).length ≤ 1) (R : Bool)
    (hk : Ev (fun k => PC.bulletinlaw09_FieldWidths.l0 k (mkS s) ((line.length + 1 : Nat) : Int) (line.length : Int) ((line.length + 1 : Nat) : Int) n b) R) : Ev (fun k => PC.bulletinlaw09_FieldWidths.l0 k (mkS s) 0 x6 0 n b) R := by
  have hs := mkS_size s
  obtain ⟨hlt, h10, hskip, htake, _⟩ := drop_parts (s := s) (p := 0) (line := line) (rest := rest) (by rw [List.drop_zero]; exact h) hno
  rw [Nat.zero_add] at hlt
  simp only [Nat.zero_add] at h10 hskip
  rw [List.drop_zero] at htake
  refine widths_skip s hl 0 x6 n b R line.length hlt ?_ _ 0 rfl (by omega) hskip
  refine Ev.next ?_
  simp only [PC.bulletinlaw09_FieldWidths.l0]
  have hext : (mkS s).extract ((0 : Int)).toNat ((line.length : Int)).toNat = mkS line := by
    rw [Int.toNat_natCast, show ((0 : Int)).toNat = 0 from rfl, extract_take, htake]
  have hmn : mn ((line.length : Nat) : Int) (wrap64 ((n.size : Int) + 1)) = ((n.size + 1 : Nat) : Int) := by
    rw [wrap_nat n.size (by omega)]
    have := mn_nat line.length (n.size + 1)
    rw [this]; congr 1; omega
  rw [bt_mk s line.length hlt, hext, hs, show (mkS line).size = line.length from mkS_size line, hmn, Int.toNat_natCast]
  have hd : (mkS line).extract (n.size + 1) line.length = mkS (line.drop (n.size + 1)) := by
    have := extract_drop line (n.size + 1); rw [mkS_size] at this; exact this
  rw [hd, wrap_nat line.length (by omega)]
  have hll : line.length ≤ 1000000 := by omega
  have hdl : (line.drop (n.size + 1)).length ≤ 1000000 := by rw [List.length_drop]; omega
  refine Ev.ite_pos (by omega) (Ev.ite_pos (by omega) (Ev.ite_pos ((byte10 _).2 h10) (Ev.ite_pos (by omega) (Ev.ite_pos (by omega) (Ev.ite_pos (by omega) (Ev.bind (refWordsF line hll) (Ev.ite_pos trivial (Ev.ite_pos (by omega) (Ev.ite_pos (by omega) (Ev.bind (refWordsF _ hdl) ?_))))))))))
  rw [List.length_map]
  generalize hwl : (wordsL (line.drop (n.size + 1))).length = wl at *
  have hj2 : ∀ v : Bool, v = false → Ev (fun k => PC.bulletinlaw09_FieldWidths.j2 k (mkS s) 0 x6 (line.length : Int) (mkS line) v n b) R := by
    rintro v rfl
    refine Ev.next ?_
    simp only [PC.bulletinlaw09_FieldWidths.j2]
    rw [mkS_size, wrap_nat line.length (by omega)]
    exact Ev.ite_neg (by simp) (Ev.ite_neg (by decide) hk)
  refine Ev.next ?_
  simp only [PC.bulletinlaw09_FieldWidths.j1]
  rw [mkS_size]
  by_cases h78 : (line.length : Int) > 78
  · refine Ev.ite_pos h78 (hj2 _ ?_)
    rw [decide_eq_false_iff_not]; omega
  · exact Ev.ite_neg h78 (hj2 _ rfl)
/-- A line that goes on. -/
theorem width_cont (s : List UInt8) (hl : s.length ≤ 1000000) (n b : ByteArray) (p before : Nat) (hp : 0 < p) (hbf : before ≤ 1000000) (line rest : List UInt8) (h : s.drop p = line ++ 10 :: rest) (hno : ∀ c ∈ line, notNl c = true) (x : List UInt8) (xs : List (List UInt8)) (hx : wordsL line = x :: xs) (hfar : 78 < before + 1 + x.length) (h32 : ∃ t, line = 32 :: t) (hw : line.length ≤ 78 ∨ (wordsL line).length ≤ 1) (R : Bool)
    (hk : Ev (fun k => PC.bulletinlaw09_FieldWidths.l0 k (mkS s) ((p + line.length + 1 : Nat) : Int) (line.length : Int) ((p + line.length + 1 : Nat) : Int) n b) R) : Ev (fun k => PC.bulletinlaw09_FieldWidths.l0 k (mkS s) (p : Int) (before : Int) (p : Int) n b) R := by
  have hs := mkS_size s
  obtain ⟨hlt, h10, hskip, htake, _⟩ := drop_parts h hno
  refine widths_skip s hl p before n b R (p + line.length) hlt ?_ _ p rfl (by omega) hskip
  refine Ev.next ?_
  simp only [PC.bulletinlaw09_FieldWidths.l0]
  have hext : (mkS s).extract ((p : Int)).toNat (((p + line.length : Nat) : Int)).toNat = mkS line := by
    rw [Int.toNat_natCast, Int.toNat_natCast, extract_mk, mkS_toList, show p + line.length - p = line.length by omega, htake]
  rw [bt_mk s _ hlt, hext]
  have hll : line.length ≤ 1000000 := by omega
  refine Ev.ite_pos (by omega) (Ev.ite_pos (by omega) (Ev.ite_pos ((byte10 _).2 h10) (Ev.ite_pos (by omega) (Ev.ite_pos (by omega) (Ev.ite_pos (by omega) (Ev.bind (refWordsF line hll) (Ev.ite_neg (by omega) ?_)))))))
  rw [List.length_map]
  generalize hwl : (wordsL line).length = wl at *
  have hxl : x.length ≤ 1000000 := by
    have h1 := wordsL_sum line
    rw [hx] at h1
    have : sumL (x :: xs) = x.length + sumL xs := by unfold sumL; rw [List.map_cons, List.sum_cons]
    omega
  have hj2 : ∀ v : Bool, v = false → Ev (fun k => PC.bulletinlaw09_FieldWidths.j2 k (mkS s) (p : Int) (before : Int) ((p + line.length : Nat) : Int) (mkS line) v n b) R := by
    rintro v rfl
    refine Ev.next ?_
    simp only [PC.bulletinlaw09_FieldWidths.j2]
    refine Ev.ite_neg (by simp) (Ev.ite_pos (by omega) (Ev.bind (refWordsF line hll) ?_))
    rw [hx, List.map_cons]
    have h0 : rdOf ByteArray.empty (mkS x :: xs.map mkS) 0 = mkS x := rfl
    rw [h0, mkS_size, wrap_nat before (by omega), wrap_add _ _ (by omega), wrap_nat (p + line.length) (by omega)]
    obtain ⟨t, rfl⟩ := h32
    have hb0 : bt (mkS (32 :: t)) 0 = 32 := by
      have := bt_mk (32 :: t) 0 (by simp)
      exact this
    rw [hb0, mkS_size]
    refine Ev.ite_neg (by simp; omega) (Ev.ite_pos (by simp) (Ev.ite_neg (by omega) (Ev.ite_pos (by simp) (Ev.ite_pos rfl hk))))
  refine Ev.next ?_
  simp only [PC.bulletinlaw09_FieldWidths.j1]
  rw [mkS_size]
  by_cases h78 : (line.length : Int) > 78
  · refine Ev.ite_pos h78 (hj2 _ ?_)
    rw [decide_eq_false_iff_not]; omega
  · exact Ev.ite_neg h78 (hj2 _ rfl)
/-- The end. -/
theorem width_end (s : List UInt8) (n b : ByteArray) (x6 : Int) : Ev (fun k => PC.bulletinlaw09_FieldWidths.l0 k (mkS s) (s.length : Int) x6 (s.length : Int) n b) true := by
  have hs := mkS_size s
  refine Ev.next ?_
  simp only [PC.bulletinlaw09_FieldWidths.l0]
  rw [hs]
  refine Ev.ite_neg (by omega) (Ev.bind (a := true) (Ev.const rfl) (Ev.ite_pos rfl (Ev.const ?_)))
  simp
theorem widths_cont (s : List UInt8) (hl : s.length ≤ 1000000) (n b : ByteArray) : ∀ (ws cur : List (List UInt8)) (x : List UInt8) (p before : Nat), 0 < p → before ≤ 1000000 → p ≤ s.length → (∀ y ∈ x :: cur, goodW y) → (∀ y ∈ ws, goodW y) → 78 < before + 1 + x.length →
    ((tailW (x :: cur)).length ≤ 78 ∨ cur = []) → s.drop p = foldW ws [] (tailW (x :: cur)) false →
    Ev (fun k => PC.bulletinlaw09_FieldWidths.l0 k (mkS s) (p : Int) (before : Int) (p : Int) n b) true := by
  intro ws
  induction ws with
  | nil =>
    intro cur x p before hp hb hps hg _ hfar hw hd
    have e : foldW [] [] (tailW (x :: cur)) false = tailW (x :: cur) ++ 10 :: [] := by simp [foldW]
    rw [e] at hd
    have hwl := wordsL_tail (x :: cur) (fun y hy => (hg y hy).1)
    refine width_cont s hl n b p before hp hb (tailW (x :: cur)) [] hd (fun c hc => (tailW_bytes _ hg c hc).2) x cur hwl hfar ⟨x ++ tailW cur, by simp [tailW]⟩ ?_ true ?_
    · rcases hw with h | h
      · exact Or.inl h
      · subst h; rw [hwl]; exact Or.inr (by simp)
    · have hlen := congrArg List.length hd
      rw [List.length_drop, List.length_append, List.length_singleton] at hlen
      have : p + (tailW (x :: cur)).length + 1 = s.length := by omega
      rw [this]
      exact width_end s n b _
  | cons y ws ih =>
    intro cur x p before hp hb hps hg hws hfar hw hd
    have hy := hws y (by simp)
    have hws' : ∀ z ∈ ws, goodW z := fun z hz => hws z (by simp [hz])
    by_cases hfit : 78 < (tailW (x :: cur)).length + 1 + y.length
    · have e : foldW (y :: ws) [] (tailW (x :: cur)) false = tailW (x :: cur) ++ 10 :: foldW ws [] (tailW [y]) false := by
        conv => lhs; unfold foldW
        rw [if_pos ⟨rfl, hfit⟩, foldW_out]; simp [tailW]
      rw [e] at hd
      have hwl := wordsL_tail (x :: cur) (fun y hy => (hg y hy).1)
      have hlen := congrArg List.length hd
      rw [List.length_drop, List.length_append, List.length_cons] at hlen
      have hbytes : ∀ c ∈ tailW (x :: cur), notNl c = true := fun c hc => (tailW_bytes _ hg c hc).2
      obtain ⟨_, _, _, _, hrest⟩ := drop_parts hd hbytes
      refine width_cont s hl n b p before hp hb (tailW (x :: cur)) _ hd hbytes x cur hwl hfar ⟨x ++ tailW cur, by simp [tailW]⟩ ?_ true ?_
      · rcases hw with h | h
        · exact Or.inl h
        · subst h; rw [hwl]; exact Or.inr (by simp)
      · exact ih [] y (p + (tailW (x :: cur)).length + 1) (tailW (x :: cur)).length (by omega) (by omega) (by omega) (fun z hz => by simp at hz; subst hz; exact hy) hws' hfit (Or.inr rfl) hrest
    · have e : foldW (y :: ws) [] (tailW (x :: cur)) false = foldW ws [] (tailW (x :: (cur ++ [y]))) false := by
        conv => lhs; unfold foldW
        rw [if_neg (fun h => hfit h.2), ← tailW_snoc]; rfl
      rw [e] at hd
      refine ih (cur ++ [y]) x p before hp hb hps (fun z hz => by
        rw [← List.cons_append] at hz
        rcases List.mem_append.1 hz with h | h
        · exact hg z h
        · simp at h; subst h; exact hy) hws' hfar (Or.inl ?_) hd
      rw [← List.cons_append, tailW_snoc, List.length_append, List.length_cons]; omega
theorem widths_first (s : List UInt8) (hl : s.length ≤ 1000000) (name : List UInt8) (hnm : ∀ c ∈ name, notNl c = true) (hn40 : name.length ≤ 40) (b : ByteArray) (x6 : Int) : ∀ (ws cur : List (List UInt8)) (e : Bool), (e = true → cur = []) → (∀ y ∈ cur, goodW y) → (∀ y ∈ ws, goodW y) →
    ((name ++ [58] ++ tailW cur).length ≤ 78 ∨ cur.length ≤ 1) → s = foldW ws [] (name ++ [58] ++ tailW cur) e →
    Ev (fun k => PC.bulletinlaw09_FieldWidths.l0 k (mkS s) 0 x6 0 (mkS name) b) true := by
  have hbytes : ∀ cur : List (List UInt8), (∀ y ∈ cur, goodW y) → ∀ c ∈ name ++ [58] ++ tailW cur, notNl c = true := by
    intro cur hg c h
    rcases List.mem_append.1 h with h | h
    · rcases List.mem_append.1 h with h | h
      · exact hnm c h
      · simp at h; subst h; decide
    · exact (tailW_bytes cur hg c h).2
  have hdr : ∀ cur : List (List UInt8), (name ++ [58] ++ tailW cur).drop ((mkS name).size + 1) = tailW cur := by
    intro cur
    have : (mkS name).size + 1 = (name ++ [58]).length := by rw [mkS_size]; simp
    rw [this, List.drop_left]
  have hsz := mkS_size name
  intro ws
  induction ws with
  | nil =>
    intro cur e he hg _ hw hd
    have e1 : foldW [] [] (name ++ [58] ++ tailW cur) e = (name ++ [58] ++ tailW cur) ++ 10 :: [] := by simp [foldW]
    rw [e1] at hd
    refine width_first s hl (mkS name) b (by omega) x6 _ [] hd (hbytes cur hg) (by rw [hsz]; simp) ?_ true ?_
    · rw [hdr, wordsL_tail cur (fun y hy => (hg y hy).1)]; exact hw
    · have hlen : s.length = (name ++ [58] ++ tailW cur).length + 1 := by
        conv => lhs; rw [hd]
        exact List.length_append
      rw [← hlen]
      exact width_end s _ b _
  | cons y ws ih =>
    intro cur e he hg hws hw hd
    have hy := hws y (by simp)
    have hws' : ∀ z ∈ ws, goodW z := fun z hz => hws z (by simp [hz])
    by_cases hfit : e = false ∧ 78 < (name ++ [58] ++ tailW cur).length + 1 + y.length
    · have e1 : foldW (y :: ws) [] (name ++ [58] ++ tailW cur) e = (name ++ [58] ++ tailW cur) ++ 10 :: foldW ws [] (tailW [y]) false := by
        conv => lhs; unfold foldW
        rw [if_pos hfit, foldW_out]; simp [tailW]
      rw [e1] at hd
      have hlen : s.length = (name ++ [58] ++ tailW cur).length + ((foldW ws [] (tailW [y]) false).length + 1) := by
        conv => lhs; rw [hd]
        exact List.length_append
      obtain ⟨_, _, _, _, hrest⟩ := drop_parts (s := s) (p := 0) (by rw [List.drop_zero]; exact hd) (hbytes cur hg)
      rw [Nat.zero_add] at hrest
      refine width_first s hl (mkS name) b (by omega) x6 _ _ hd (hbytes cur hg) (by rw [hsz]; simp) ?_ true ?_
      · rw [hdr, wordsL_tail cur (fun y hy => (hg y hy).1)]; exact hw
      · exact widths_cont s hl (mkS name) b ws [] y _ _ (by omega) (by omega) (by omega) (fun z hz => by simp at hz; subst hz; exact hy) hws' hfit.2 (Or.inr rfl) hrest
    · have e1 : foldW (y :: ws) [] (name ++ [58] ++ tailW cur) e = foldW ws [] (name ++ [58] ++ tailW (cur ++ [y])) false := by
        conv => lhs; unfold foldW
        rw [if_neg hfit, tailW_snoc]; simp
      rw [e1] at hd
      refine ih (cur ++ [y]) false (by simp) (fun z hz => by
        rcases List.mem_append.1 hz with h | h
        · exact hg z h
        · simp at h; subst h; exact hy) hws' ?_ hd
      cases e with
      | true => have := he rfl; subst this; exact Or.inr (by simp)
      | false =>
        have : ¬ 78 < (name ++ [58] ++ tailW cur).length + 1 + y.length := fun h => hfit ⟨rfl, h⟩
        refine Or.inl ?_
        rw [tailW_snoc]
        simp only [List.length_append, List.length_cons] at this ⊢
        omega
theorem foldL_small2 (n b : List UInt8) (hn : n.length ≤ 60) (hb : b.length ≤ 9000) : (foldL n b).length ≤ 1000000 := by
  have h1 := foldL_len n b
  have h2 := wordsL_len b
  have h3 := wordsL_sum b
  unfold costW at h1; omega
theorem FieldWidths_pure (a b : ByteArray) : ∃ k, PC.bulletinlaw09_FieldWidths.f k a b = some true := by
  refine Ev.at_ ?_
  unfold PC.bulletinlaw09_FieldWidths.f
  refine Ev.bind (cutLF _) ?_
  have hc : cutL [(⟨a, b⟩ : S25)] = [⟨mkS (a.data.toList.take 60), mkS (b.data.toList.take 9000)⟩] := rfl
  rw [hc]
  have h1 : (a.data.toList.take 60).length ≤ 60 := by rw [List.length_take]; omega
  have h2 : (b.data.toList.take 9000).length ≤ 9000 := by rw [List.length_take]; omega
  generalize a.data.toList.take 60 = n at *
  generalize b.data.toList.take 9000 = bb at *
  have hr : rd_T25 [(⟨mkS n, mkS bb⟩ : S25)] 0 = ⟨mkS n, mkS bb⟩ := rfl
  rw [hr]
  refine Ev.ite_pos (by simp) (Ev.bind (foldF n bb (by omega) (by omega)) ?_)
  by_cases h : checkL n bb = 0
  · rw [if_pos h]
    refine Ev.ite_pos rfl ?_
    have hg := good_of_check (f := ⟨n, bb⟩) h
    obtain ⟨hn40, _, hnb⟩ := valid_parts hg.name
    refine widths_first (foldL n bb) (foldL_small2 n bb h1 h2) n (fun c hc => (name_bytes c (hnb c hc)).2.1) hn40 (mkS bb) 0 (wordsL bb) [] true (fun _ => rfl) (by simp) hg.words (Or.inr (by simp)) ?_
    unfold foldL; simp [tailW]
  · rw [if_neg h]
    refine Ev.ite_neg h (Ev.bind (a := true) (Ev.const rfl) (Ev.ite_pos rfl (Ev.const ?_)))
    show some ((⟨#[]⟩ : ByteArray).toList == []) = some true
    rw [mkS_nil, toList_mk]; rfl
end Go.Proofs.Ytfeciafdioepiaa
