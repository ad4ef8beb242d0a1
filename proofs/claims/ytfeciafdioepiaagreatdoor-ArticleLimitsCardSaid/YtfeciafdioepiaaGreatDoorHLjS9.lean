/- WriteString in a loop over an iterator: the machine's own objects stay.; The contract of article's Strip over this translation.; The contract of article's Quote over this translation.; The contract of article's Quote over this translation.; The examples of the document: what the law's known computes.; The law's known holds always.; A slice made with a capacity of its own, as an event of the printed walks.; The reference's Parse of an empty text and Print of no fields, in the printed fo -/
import Derived.Test.YtfeciafdioepiaaGreatDoorHLjS7
import Derived.Test.YtfeciafdioepiaaGreatDoorHLjS8
import Derived.Test.YtfeciafdioepiaaGreatDoorHLjS6
import Derived.Shelf.Strings.BuilderK
import Derived.Laws.EntriesVeiled
import Derived.Test.YtfeciafdioepiaaGreatDoorHLjS0
set_option linter.unusedVariables false
set_option linter.unusedSimpArgs false
namespace Go.Proofs.YtfeciafdioepiaaGreatDoor
open Go.RowKit Go.Proofs Go.Proofs.YtfeciafdioepiaaGreatDoorW.PrintWords Go.Proofs.YtfeciafdioepiaaGreatDoor.PA

theorem copyCheck3 (B b : Nat) (bs : List Value) (w : World) (h : Lib.IsBuilder 85 5 B b bs w) :
    Calls Tryz.prog 74 #[.pointer (some ⟨b, 0, none⟩)] w fun e w' => e = .returned (.tuple #[]) ∧ (Lib.BuilderAt 85 5 B b (.pointer (some ⟨b, 0, none⟩)) bs w' ∧ Below B w w' ∧ Sib w w' ∧ KeepsOthers w w') := by
  rcases h with h | h
  · refine (copyCheck_fresh b w h.cell0 h.shape h.frozen0).mono ?_
    rintro e w' ⟨rfl, rfl⟩
    obtain ⟨hB, v, hb, _⟩ := id h
    exact ⟨rfl, h.used _, (Below.refl B w).setCell (p := ⟨b, 0, none⟩) h.1 _, Sib.set_ hb 0 _, KeepsOthers.setCell _ _ _⟩
  · refine (copyCheck_used b w h.cell0).mono ?_
    rintro e w' ⟨rfl, rfl⟩
    exact ⟨rfl, h, Below.refl B _, Sib.refl _, KeepsOthers.refl _⟩

set_option maxHeartbeats 2000000 in
set_option maxRecDepth 100000 in
theorem writeString3 (B b : Nat) (bs : List Value) (s : ByteArray) (w : World) (h : Lib.IsBuilder 85 5 B b bs w) (hlen : bs.length + s.size ≤ 140737488355328) (hBw : B ≤ w.heap.size) :
    Calls Tryz.prog 47 #[.pointer (some ⟨b, 0, none⟩), .string s] w fun e w' => e = .returned (.tuple #[.int .i64 s.size, .nilIface]) ∧ (Lib.BuilderAt 85 5 B b (.pointer (some ⟨b, 0, none⟩)) (bs ++ Lib.strCells s) w' ∧ Below B w w' ∧ Sib w w' ∧ KeepsOthers w w') := by
  obtain ⟨i0, hi, hz0, hz1, hz2⟩ := info_parts infoByte
  go_enter Tryz.func47, Tryz.ntmps47
  go_wp2_with (go_at_call 74; refine (copyCheck3 B b bs _ h).mono ?_)
  rintro e w1 ⟨rfl, h1, hb1, hs1, hko1⟩
  obtain ⟨hB, v, hbk, hown, hne⟩ := h1
  have c0 : w1.cell? ⟨b, 0, none⟩ = some (.pointer (some ⟨b, 0, none⟩)) := by rw [Lib.cell_of_heap hbk]; rfl
  have c1 : w1.cell? ⟨b, 1, none⟩ = some v := by rw [Lib.cell_of_heap hbk]; rfl
  go_wp2_with (at_builtin; refine Lib.wpList_append_own_string _ rfl _ _ 44 9 rfl B 5 i0 Tryz.underlying44 Tryz.underlying9 hi hz0 hz1 hz2 _ _ _ rfl hown s rfl ?c3 ?c4 ?c5 ?_)
  case c3 => unfold maxLen; omega
  case c4 => omega
  case c5 => have := hb1.size; omega
  intro v' w2 hown' hgrow _
  have hlt : b < w1.heap.size := by
    rcases Nat.lt_or_ge b w1.heap.size with h' | h'
    · exact h'
    · simp [Array.getElem?_eq_none h'] at hbk
  have hb2 : w2.heap[b]? = some (.cells #[.pointer (some ⟨b, 0, none⟩), v] 85 (0, 0)) := by
    rw [hgrow.block b hlt (fun e => hne e.symm)]
    exact hbk
  have d0 : w2.cell? ⟨b, 0, none⟩ = some (.pointer (some ⟨b, 0, none⟩)) := by rw [Lib.cell_of_heap hb2]; rfl
  have d1 : w2.cell? ⟨b, 1, none⟩ = some v := by rw [Lib.cell_of_heap hb2]; rfl
  have f1 : w2.frozen? ⟨b, 1, none⟩ = false := Lib.frozen_of_heap hb2 1
  have hs2 : Sib w1 w2 := fun k cs T hk h1 h2 => by
    refine hgrow.block k ?_ ?_
    · rcases Nat.lt_or_ge k w1.heap.size with h' | h'
      · exact h'
      · simp [Array.getElem?_eq_none h'] at hk
    · exact fun e => Lib.ownBlock_ne hown hk h2 e.symm
  have hko2 : KeepsOthers w1 w2 := KeepsOthers.of_grownBy hgrow (fun j o hj ho => by
    rcases hown.2 with ⟨rfl, _⟩ | ⟨g, cap, cur, rfl, _, hg, _⟩
    · simp [Value.ownBlock] at hj
    · simp only [Value.ownBlock, Option.some.injEq] at hj
      subst hj
      rw [hg] at ho
      cases ho; rfl)
  obtain ⟨ao, n', cap, rfl⟩ : ∃ ao n' cap, v' = .slice ao n' cap := by
    rcases hown'.2 with ⟨hv, _⟩ | ⟨g, cap, cur, hv, _⟩
    · exact ⟨_, _, _, hv⟩
    · exact ⟨_, _, _, hv⟩
  go_wp2
  go_ret2
  refine ⟨rfl, ?_, ?_, (hs1.trans hs2).trans (Sib.set_ hb2 1 _), (hko1.trans hko2).trans (KeepsOthers.setCell _ _ _)⟩
  · exact Lib.BuilderAt.put (T := 85) (e := 5) hB hb2 (bs' := bs ++ Lib.strCells s) (by simpa [Lib.strCells_length] using hown') (by decide)
  · exact (hb1.grown hgrow (by have := hb1.size; omega) (fun k hk => (hown.lt k hk).1)).setCell (p := ⟨b, 1, none⟩) hB _

/-- A builder stays where the blocks of its types stay. -/
theorem IsBuilder_keep {w w1 : World} {B b : Nat} {bs : List Value} (h : Lib.IsBuilder 85 5 B b bs w) (hk : ∀ (k : Nat) (cs : Array Value) (T : TypeId), w.heap[k]? = some (.cells cs T (0, 0)) → (T = 85 ∨ T = 5) → w1.heap[k]? = some (.cells cs T (0, 0))) : Lib.IsBuilder 85 5 B b bs w1 := by
  have key : ∀ p, Lib.BuilderAt 85 5 B b p bs w → Lib.BuilderAt 85 5 B b p bs w1 := by
    intro p h
    obtain ⟨hB, v, hv, hown, hne⟩ := h
    refine ⟨hB, v, hk _ _ _ hv (.inl rfl), ?_, hne⟩
    refine ⟨hown.1, ?_⟩
    rcases hown.2 with hn | ⟨g, cap, cur, rfl, hbg, hgg, rest⟩
    · exact .inl hn
    · exact .inr ⟨g, cap, cur, rfl, hbg, hk _ _ _ hgg (.inr rfl), rest⟩
  exact h.elim (fun x => .inl (key _ x)) (fun x => .inr (key _ x))
theorem IsBuilder_line {W W' : World} {B b c : Nat} {bs : List Value} {v : Value} (h : Lib.IsBuilder 85 5 B b bs W) (hm : LineMv c W W') (hc : W.heap[c]? = some (.cells #[v] 9 (0, 0))) : Lib.IsBuilder 85 5 B b bs W' :=
  IsBuilder_keep h fun k cs T hk hT => hm.blk hk (by
    rintro rfl
    rw [hk] at hc
    simp only [Option.some.injEq, Obj.cells.injEq] at hc
    obtain ⟨_, h2, _⟩ := hc
    rcases hT with h3 | h3 <;> rw [h3] at h2 <;> exact absurd h2 (by decide))
theorem IsBuilder_putObj {W : World} {B b l : Nat} {bs : List Value} {o o0 : Obj} (h : Lib.IsBuilder 85 5 B b bs W) (ho : W.heap[l]? = some o0) (hc : o0.isCells = false) : Lib.IsBuilder 85 5 B b bs (W.putObj l o) :=
  IsBuilder_keep h fun k cs T hk hT => blk_putObj hk (by
    rintro rfl
    rw [hk] at ho
    cases ho
    exact absurd hc (by simp [Obj.isCells]))
theorem builderString (B b : Nat) (l : List UInt8) (w : World) (h : Lib.IsBuilder 85 5 B b (Lib.byteCells l) w) (hBw : B ≤ w.heap.size) :
    Calls Tryz.prog 50 #[.pointer (some ⟨b, 0, none⟩)] w fun e w' => e = .returned (.string (mkS l)) ∧ Below B w w' ∧ Lib.OthersKept 5 (some b) w w' :=
  (Any.Builder_String_any_k Tryz.lays169 Tryz.Builder_Extra_169 B b l w (Lib.IsBuilderF.of h) hBw).mono fun e w' hx => ⟨hx.1, hx.2.2⟩
theorem others_deferred {w w' : World} {b D : Nat} {o : Obj} (h : Lib.OthersKept 5 (some b) w w') (hD : w.heap[D]? = some o) (hb : D ≠ b) (ho : ∀ c fz, o ≠ .cells c 5 fz) : w'.heap[D]? = some o :=
  h D o hD (fun e => hb (Option.some.inj e)) ho
end Go.Proofs.YtfeciafdioepiaaGreatDoor
set_option linter.unusedVariables false
set_option linter.unusedSimpArgs false
namespace Go.Proofs.YtfeciafdioepiaaGreatDoor
open Go.RowKit Go.Shelf Go.Proofs Go.Proofs.YtfeciafdioepiaaGreatDoorW.PrintWords Go.Proofs.YtfeciafdioepiaaGreatDoorW.PrintMore Go.Proofs.YtfeciafdioepiaaGreatDoor.PA
attribute [local go_sem] Oper.semAt_some

/-- The bytes of lines with their ends. -/
def costL (xs : List (Nat × List UInt8)) : Nat := (xs.map fun x => x.2.length + 1).sum
theorem costL_append (a b : List (Nat × List UInt8)) : costL (a ++ b) = costL a + costL b := by simp [costL]
theorem costL_lines (f : Nat) : ∀ (i : Nat) (l : List UInt8), costL (linesG f i l) ≤ l.length + 1 := by
  induction f with
  | zero => intro i l; simp [linesG, costL]
  | succ f ih =>
    intro i l
    by_cases h : l = []
    · subst h; rw [linesG_nil]; simp [costL]
    · rw [linesG_cons h]
      have hp : 0 < l.length := List.length_pos_iff.2 h
      have h1 := ih (i + 1) (l.drop (lineN l + 1))
      have hle := lineN_le l
      have hc : costL ((i, l.take (lineN l)) :: linesG f (i + 1) (l.drop (lineN l + 1))) = ((l.take (lineN l)).length + 1) + costL (linesG f (i + 1) (l.drop (lineN l + 1))) := by simp [costL]
      rw [hc, List.length_take]
      rw [List.length_drop] at h1
      by_cases h2 : l.length ≤ lineN l + 1
      · have h3 : l.drop (lineN l + 1) = [] := List.drop_eq_nil_of_le h2
        rw [h3, linesG_nil]
        simp [costL]; omega
      · omega
theorem costL_pre {pre : List (Nat × List UInt8)} {s : ByteArray} (h : pre <+: linesU s.data.toList) : costL pre ≤ s.size + 1 := by
  obtain ⟨r, hr⟩ := h
  have h1 := costL_lines s.data.toList.length 0 s.data.toList
  have h2 : s.data.toList.length = s.size := by simp
  have h3 : costL (pre ++ r) ≤ s.data.toList.length + 1 := by rw [hr]; exact h1
  rw [costL_append] at h3
  omega
end Go.Proofs.YtfeciafdioepiaaGreatDoor
set_option linter.unusedVariables false
set_option linter.unusedSimpArgs false
namespace Go.Proofs.YtfeciafdioepiaaGreatDoor
open Go.RowKit Go.Shelf Go.Proofs Go.Proofs.YtfeciafdioepiaaGreatDoorW.PrintWords Go.Proofs.YtfeciafdioepiaaGreatDoorW.PrintMore Go.Proofs.YtfeciafdioepiaaGreatDoor.PA
attribute [local go_sem] Oper.semAt_some

/-- A quoted line. -/
def quoteL (l : List UInt8) : List UInt8 := if l = [] ∨ 0 < markN l then 62 :: l else 62 :: 32 :: l
theorem quoteL_len (l : List UInt8) : (quoteL l).length ≤ l.length + 2 := by unfold quoteL; split <;> simp
set_option maxHeartbeats 1000000 in
set_option maxRecDepth 100000 in
theorem quoted_any (l : List UInt8) (w : World) (hl : l.length ≤ 1000000) : Calls Tryz.prog 46 #[.string (mkS l)] w fun e w' => e = .returned (.string (mkS (quoteL l))) ∧ Drawn0 w w' := by
  have hsz : (mkS l).size = l.length := mkS_size l
  have HL := Lib.hid (fun w => level_any (mkS l) w (by omega))
  have hq1 : (9223372036854775807 < 1 + (mkS l).size) = False := eq_false (by omega)
  have hq2 : (9223372036854775807 < 2 + (mkS l).size) = False := eq_false (by omega)
  have hc1 : (⟨#[62]⟩ : ByteArray) ++ mkS l = mkS (62 :: l) := mkS_append [62] l
  have hc2 : (⟨#[62, 32]⟩ : ByteArray) ++ mkS l = mkS (62 :: 32 :: l) := mkS_append [62, 32] l
  have htl : (mkS l).toList = l := toList_mk l
  by_cases h1 : l = []
  · have hq : quoteL l = 62 :: l := by unfold quoteL; rw [if_pos (.inl h1)]
    rw [hq, ← hc1]
    have c3b0 : ((mkS l).toList == ([] : List UInt8)) = true := by rw [htl]; exact beq_iff_eq.mpr h1
    generalize mkS l = a0 at *
    clear hc1 hc2 hq h1 htl
    go_enter Tryz.func46, Tryz.ntmps46
    go_wp2_with (go_at_call 24; refine (HL.out _).mono ?_; rintro e w' ⟨rfl, hd⟩; obtain ⟨nq, rfl⟩ := hd.1)
    go_ret
    exact ⟨rfl, drawn_of_drewN _ _⟩
  · have c3b0 : ((mkS l).toList == ([] : List UInt8)) = false := by rw [htl]; exact beq_eq_false_iff_ne.mpr h1
    by_cases h2 : 0 < markN l
    · have hq : quoteL l = 62 :: l := by unfold quoteL; rw [if_pos (.inr h2)]
      rw [hq, ← hc1]
      have c5 : decide ((0 : Int) < (markN (mkS l).data.toList : Int)) = true := decide_eq_true (by rw [mkS_toList]; omega)
      have c5' : decide (0 < markN (mkS l).data.toList) = true := decide_eq_true (by rw [mkS_toList]; omega)
      generalize mkS l = a0 at *
      clear hc1 hc2 hq h1 htl h2
      go_enter Tryz.func46, Tryz.ntmps46
      go_wp2_with (go_at_call 24; refine (HL.out _).mono ?_; rintro e w' ⟨rfl, hd⟩; obtain ⟨nq, rfl⟩ := hd.1)
      go_ret
      exact ⟨rfl, drawn_of_drewN _ _⟩
    · have hq : quoteL l = 62 :: 32 :: l := by unfold quoteL; rw [if_neg (by simp [h1, h2])]
      rw [hq, ← hc2]
      have c5 : decide ((0 : Int) < (markN (mkS l).data.toList : Int)) = false := decide_eq_false (by rw [mkS_toList]; omega)
      have c5' : decide (0 < markN (mkS l).data.toList) = false := decide_eq_false (by rw [mkS_toList]; omega)
      generalize mkS l = a0 at *
      clear hc1 hc2 hq h1 htl h2
      go_enter Tryz.func46, Tryz.ntmps46
      go_wp2_with (go_at_call 24; refine (HL.out _).mono ?_; rintro e w' ⟨rfl, hd⟩; obtain ⟨nq, rfl⟩ := hd.1)
      go_ret
      exact ⟨rfl, drawn_of_drewN _ _⟩

set_option maxHeartbeats 1000000 in
set_option maxRecDepth 100000 in
/-- The closure that adds a quoted line. -/
theorem add_any (B b : Nat) (bs : List Value) (l : List UInt8) (w : World) (hl : l.length ≤ 1000000) (h : Lib.IsBuilder 85 5 B b bs w) (hlen : bs.length + l.length + 3 ≤ 140737488355328) (hBw : B ≤ w.heap.size) :
    Calls Tryz.prog 45 #[.string (mkS l), .pointer (some ⟨b, 0, none⟩)] w fun e w' => e = .returned (.bool (decide (((quoteL l).length : Int) ≤ 998))) ∧
      (Lib.IsBuilder 85 5 B b (bs ++ Lib.byteCells (quoteL l ++ [10])) w' ∧ Below B w w' ∧ Sib w w' ∧ KeepsOthers w w') := by
  have hql := quoteL_len l
  have HQ := Lib.hid (fun w => quoted_any l w hl)
  have hsz : (mkS (quoteL l)).size = (quoteL l).length := mkS_size _
  have HW := Lib.hid (fun n => writeString3 B b bs (mkS (quoteL l ++ [10])) (w.drewN n) (IsBuilder_keep h (fun _ _ _ h _ => h)) (by rw [mkS_size]; simp; omega) hBw)
  have hq1 : (9223372036854775807 < (mkS (quoteL l)).size + 1) = False := eq_false (by omega)
  have hcat : mkS (quoteL l) ++ (⟨#[10]⟩ : ByteArray) = mkS (quoteL l ++ [10]) := mkS_append _ _
  have hst : Lib.strCells (mkS (quoteL l ++ [10])) = Lib.byteCells (quoteL l ++ [10]) := by rw [str_mk, mkS_toList]
  have Hst := Lib.hid hst
  rw [← hsz]
  have Hcat := Lib.hid hcat
  clear hst hcat hql hsz
  go_enter Tryz.func45, Tryz.ntmps45
  go_wp2_with (first
    | (go_at_call 46; refine (HQ.out _).mono ?_; rintro e w' ⟨rfl, hd⟩; obtain ⟨nq, rfl⟩ := hd.1)
    | (go_at_call 47; rw [Hcat.out]; refine (HW.out _).mono ?_; rintro e w3 ⟨rfl, hb3, hbl3, hsib3, hko3⟩; have HB3 := Aside0.mk hb3; have HBL3 := Aside0.mk hbl3; have HS3 := Aside0.mk hsib3; have HK3 := Aside0.mk hko3; clear hb3 hbl3 hsib3 hko3))
  go_ret
  refine ⟨rfl, ?_, (pw_below_drewN (Below.refl B w) _).trans HBL3.out, fun k cs T hk h1 h2 => HS3.out k cs T hk h1 h2, ⟨HK3.out.size, fun k o hk ho => HK3.out.same k o hk ho⟩⟩
  rw [← Hst.out]
  exact .inr HB3.out
end Go.Proofs.YtfeciafdioepiaaGreatDoor
set_option linter.unusedVariables false
set_option linter.unusedSimpArgs false
namespace Go.Proofs.YtfeciafdioepiaaGreatDoor
open Go.RowKit Go.Shelf Go.Proofs Go.Proofs.YtfeciafdioepiaaGreatDoorW.PrintWords Go.Proofs.YtfeciafdioepiaaGreatDoorW.PrintMore Go.Proofs.YtfeciafdioepiaaGreatDoor.PA
attribute [local go_sem] Oper.semAt_some

/-- The quoted lines, joined. -/
def quoteAll (xs : List (Nat × List UInt8)) : List UInt8 := xs.flatMap fun x => quoteL x.2 ++ [10]
theorem quoteAll_len (xs : List (Nat × List UInt8)) : (quoteAll xs).length ≤ 3 * costL xs := by
  induction xs with
  | nil => simp [quoteAll, costL]
  | cons x r ih =>
    have hc : costL (x :: r) = x.2.length + 1 + costL r := by simp [costL]
    have hq : quoteAll (x :: r) = quoteL x.2 ++ [10] ++ quoteAll r := rfl
    have := quoteL_len x.2
    rw [hq, hc]; simp; omega
def longQ (x : Nat × List UInt8) : Bool := decide (998 < (quoteL x.2).length)
def quoteR (xs : List (Nat × List UInt8)) : ByteArray × Int := if xs.any longQ = true then (⟨#[]⟩, 5) else if 65536 < (quoteAll xs).length then (⟨#[]⟩, 5) else (mkS (quoteAll xs), 0)

theorem two_results {w W : World} {D : Nat} {t : ByteArray} {c : Int} (n : Nat) (h0 : W.heap[n]? = some (.cells #[.string ⟨#[]⟩] 9 (0, 0))) (h1 : W.heap[n + 1]? = some (.cells #[.int .i64 0] 26 (0, 0))) (hD : n + 1 < D) :
    (((W.setCell ⟨n, 0, none⟩ (.string t)).setCell ⟨n + 1, 0, none⟩ (.int .i64 c)).putObj D (.deferred none)).cell? ⟨n, 0, none⟩ = some (.string t) ∧
    (((W.setCell ⟨n, 0, none⟩ (.string t)).setCell ⟨n + 1, 0, none⟩ (.int .i64 c)).putObj D (.deferred none)).cell? ⟨n + 1, 0, none⟩ = some (.int .i64 c) := by
  have a0 := blk_far (blk_put h0 0 (.string t) rfl) (p := ⟨n + 1, 0, none⟩) (by simp) (.int .i64 c)
  have a1 := blk_put (blk_far h1 (p := ⟨n, 0, none⟩) (by simp) (.string t)) 0 (.int .i64 c) rfl
  exact ⟨(blk_cell (blk_putObj a0 (by omega)) 0).trans rfl, (blk_cell (blk_putObj a1 (by omega)) 0).trans rfl⟩

set_option maxHeartbeats 1000000 in
set_option maxRecDepth 100000 in
theorem quote_main (s : ByteArray) (w : World) (hs : s.size ≤ 1000000) (k : Nat) (a : Int) (hcb : PC.article_CheckBody.f k s = some (a, 0)) :
    Calls Tryz.prog 21 #[.string s] w fun e w' => e = .returned (.tuple #[.string (quoteR (linesU s.data.toList)).1, .int .i64 (quoteR (linesU s.data.toList)).2]) ∧ Below w.heap.size w w' := by
  have HC := Lib.hid (fun w => PC.article_CheckBody.calls k s a 0 w hcb)
  clear hcb
  have hr0 := blk_alloc (heap_alloc_last w (.cells #[.string ⟨#[]⟩] 9)) (.cells #[.int .i64 0] 26)
  have hr1 : ((w.alloc (.cells #[.string ⟨#[]⟩] 9)).alloc (.cells #[.int .i64 0] 26)).heap[w.heap.size + 1]? = some (.cells #[.int .i64 0] 26 (0, 0)) := by
    have := heap_alloc_last (w.alloc (.cells #[.string ⟨#[]⟩] 9)) (.cells #[.int .i64 0] 26)
    rwa [World.size_alloc] at this
  obtain ⟨R, hR⟩ : ∃ R, quoteR (linesU s.data.toList) = R := ⟨_, rfl⟩
  rw [hR]
  have HRR := Lib.hid hR
  clear hR
  have HR0 := Aside0.mk hr0
  have HR1 := Aside0.mk hr1
  clear hr0 hr1
  refine (callsIn_wide (n := 3)).1 ?_
  refine callsIn_of_wp_marks Tryz.func21 rfl trivial ?_ rfl
  simp only [Tryz.ntmps21, List.size_toArray, List.length_cons, List.length_nil, Nat.reduceAdd, Nat.reduceSub, Array.replicate_succ, Array.replicate_zero, List.push_toArray, List.append_toArray, List.nil_append, List.cons_append]
  gi_wp2_with (first
    | (refine ⟨trivial, ?_⟩; gi_at_call 17; refine (callsIn_wide.2 (HC.out _)).mono ?_; rintro e w1 ⟨rfl, hb1⟩; have hc0 := blk_below HR0.out hb1; have hc1 := blk_below HR1.out hb1; have hlt1 := blk_lt hc1; have HC0 := Aside0.mk hc0; have HC1 := Aside0.mk hc1; have HB1 := Aside0.mk ((((Below.refl _ w).alloc (Nat.le_refl _) (.cells #[.string ⟨#[]⟩] 9)).alloc (by simp) (.cells #[.int .i64 0] 26)).trans (hb1.mono (by simp; omega))); clear hb1 hc1 hc0)
    | (refine ⟨trivial, ?_⟩; gi_at_call 48; refine (callsIn_wide.2 (lines_any s _)).mono ?_; rintro e w' ⟨rfl, rfl⟩))
  have hb0 : Lib.IsBuilder 85 5 w.heap.size w1.heap.size (Lib.byteCells []) (w1.alloc (.cells #[.pointer none, .slice none 0 0] 85)) := fresh_builder (by omega) (heap_alloc_last w1 _)
  have hb : Lib.IsBuilder 85 5 w.heap.size w1.heap.size (Lib.byteCells []) (((w1.alloc (.cells #[.pointer none, .slice none 0 0] 85)).alloc (.cells #[.func (.func 45) #[] #[.pointer (some ⟨w1.heap.size, 0, none⟩)]] 38)).alloc (.cells #[.string s] 9)) := IsBuilder_below (IsBuilder_below hb0 ((Below.refl _ _).alloc (Nat.le_refl _) _)) ((Below.refl _ _).alloc (Nat.le_refl _) _)
  have hf : (((w1.alloc (.cells #[.pointer none, .slice none 0 0] 85)).alloc (.cells #[.func (.func 45) #[] #[.pointer (some ⟨w1.heap.size, 0, none⟩)]] 38)).alloc (.cells #[.string s] 9)).heap[w1.heap.size + 1]? = some (.cells #[.func (.func 45) #[] #[.pointer (some ⟨w1.heap.size, 0, none⟩)]] 38 (0, 0)) := by
    have := heap_alloc_last (w1.alloc (.cells #[.pointer none, .slice none 0 0] 85)) (.cells #[.func (.func 45) #[] #[.pointer (some ⟨w1.heap.size, 0, none⟩)]] 38)
    rw [World.size_alloc] at this
    exact blk_alloc this _
  have hl : (((w1.alloc (.cells #[.pointer none, .slice none 0 0] 85)).alloc (.cells #[.func (.func 45) #[] #[.pointer (some ⟨w1.heap.size, 0, none⟩)]] 38)).alloc (.cells #[.string s] 9)).heap[w1.heap.size + 1 + 1]? = some (.cells #[.string s] 9 (0, 0)) := by
    have := heap_alloc_last ((w1.alloc (.cells #[.pointer none, .slice none 0 0] 85)).alloc (.cells #[.func (.func 45) #[] #[.pointer (some ⟨w1.heap.size, 0, none⟩)]] 38)) (.cells #[.string s] 9)
    rwa [World.size_alloc, World.size_alloc] at this
  have hc0 := blk_alloc (blk_alloc2 (o1 := .cells #[.pointer none, .slice none 0 0] 85) (o2 := (.cells #[.func (.func 45) #[] #[.pointer (some ⟨w1.heap.size, 0, none⟩)]] 38)) HC0.out) (.cells #[.string s] 9)
  have hc1 := blk_alloc (blk_alloc2 (o1 := .cells #[.pointer none, .slice none 0 0] 85) (o2 := (.cells #[.func (.func 45) #[] #[.pointer (some ⟨w1.heap.size, 0, none⟩)]] 38)) HC1.out) (.cells #[.string s] 9)
  have hB0 : Below w.heap.size w (((w1.alloc (.cells #[.pointer none, .slice none 0 0] 85)).alloc (.cells #[.func (.func 45) #[] #[.pointer (some ⟨w1.heap.size, 0, none⟩)]] 38)).alloc (.cells #[.string s] 9)) := ((HB1.out.alloc HB1.out.size _).alloc (by simp; omega) _).alloc (by simp; omega) _
  obtain ⟨W0, hW0⟩ : ∃ W0, ((w1.alloc (.cells #[.pointer none, .slice none 0 0] 85)).alloc (.cells #[.func (.func 45) #[] #[.pointer (some ⟨w1.heap.size, 0, none⟩)]] 38)).alloc (.cells #[.string s] 9) = W0 := ⟨_, rfl⟩
  have hsz : W0.heap.size = w1.heap.size + 3 := by rw [← hW0]; simp
  try simp only [World.size_alloc]
  rw [hW0] at hc0 hc1 hb hl hf hB0 ⊢
  have Hsz := Lib.hid hsz
  clear hW0 hsz hb0
  refine range_law2 (gf := 75) (lb := #[.pointer (some ⟨w1.heap.size + 1 + 1, 0, none⟩)]) rfl (enters_of Tryz.func75 (by kernel_rfl) rfl) (lines_iter s (w1.heap.size + 1 + 1) (by omega)) (fun _ _ h => h.others) (fun _ => rfl)
    (fun pre W => (Lib.IsBuilder 85 5 w.heap.size w1.heap.size (Lib.byteCells (quoteAll pre)) W ∧ W.heap[w.heap.size]? = some (.cells #[.string ⟨#[]⟩] 9 (0, 0)) ∧ W.heap[w.heap.size + 1]? = some (.cells #[.int .i64 0] 26 (0, 0)) ∧
      W.heap[w1.heap.size + 1]? = some (.cells #[.func (.func 45) #[] #[.pointer (some ⟨w1.heap.size, 0, none⟩)]] 38 (0, 0)) ∧ pre <+: linesU s.data.toList ∧ pre.any longQ = false) ∧ (∃ v, W.heap[w1.heap.size + 1 + 1]? = some (.cells #[v] 9 (0, 0))) ∧ Below w.heap.size w W)
    (fun c pre W => c = .ret ∧ pre.any longQ = true ∧ W.heap[w.heap.size]? = some (.cells #[.string ⟨#[]⟩] 9 (0, 0)) ∧ W.heap[w.heap.size + 1]? = some (.cells #[.int .i64 5] 26 (0, 0)) ∧ Below w.heap.size w W)
    (fun pre W W' h hm => by
      obtain ⟨v, hv⟩ := h.2.1
      exact ⟨⟨IsBuilder_line h.1.1 hm hv, hm.blk h.1.2.1 (by omega), hm.blk h.1.2.2.1 (by omega), hm.blk h.1.2.2.2.1 (by omega), h.1.2.2.2.2⟩, hm.own h.2.1, hm.below (by omega) h.2.2⟩) (fun pre W h => h.2.1)
    (fun pre W l o hl ho h => by
      obtain ⟨o0, ho0, hoc⟩ := ho
      have := Hsz.out
      obtain ⟨v, hv⟩ := h.2.1
      exact ⟨⟨IsBuilder_putObj h.1.1 ho0 hoc, blk_putObj h.1.2.1 (by omega), blk_putObj h.1.2.2.1 (by omega), blk_putObj h.1.2.2.2.1 (by omega), h.1.2.2.2.2⟩, ⟨v, blk_putObj hv (by omega)⟩, below_putObj h.2.2 (Nat.le_refl _) (by omega) _⟩)
    (fun c pre W l o hl ho h => by
      have := Hsz.out
      exact ⟨h.1, h.2.1, blk_putObj h.2.2.1 (by omega), blk_putObj h.2.2.2.1 (by omega), below_putObj h.2.2.2.2 (Nat.le_refl _) (by omega) _⟩)
    (fun o o' => ⟨⟨IsBuilder_below (IsBuilder_below hb ((Below.refl _ _).alloc (Nat.le_refl _) _)) ((Below.refl _ _).alloc (Nat.le_refl _) _), blk_alloc2 hc0, blk_alloc2 hc1, blk_alloc2 hf, List.nil_prefix, rfl⟩, ⟨_, blk_alloc2 hl⟩, (hB0.alloc (by have := Hsz.out; omega) _).alloc (by have := Hsz.out; simp; omega) _⟩)
    (fun o o' => blk_alloc2 hl)
    (fun x => { tmps := #[.string s, undef, .pointer (some ⟨w.heap.size, 0, none⟩), .pointer (some ⟨w.heap.size + 1, 0, none⟩), .int .i64 a, .int .i64 0, .pointer (some ⟨w1.heap.size, 0, none⟩), .pointer (some ⟨w1.heap.size + 1, 0, none⟩), undef, .string (mkS x.2), .tuple #[.int .i64 a, .int .i64 0], .string s, .tuple #[.int .i64 a, .int .i64 0], .int .i64 a, .int .i64 0, .int .i64 0, .bool false, undef, .func (.func 45) #[] #[.pointer (some ⟨w1.heap.size, 0, none⟩)], .string s, .func (.func 75) #[] #[.pointer (some ⟨w1.heap.size + 1 + 1, 0, none⟩)], .int .i64 x.1, .string (mkS x.2), undef, undef, undef, undef, undef, undef, undef], defers := [] }) ?assign ?body ?done ?stop
  case assign =>
    intro l x W K hK
    gi_wp2
    simpa using hK
  case body =>
    rintro l pre x W ⟨⟨hbd, hcn0, hcn1, hfn, hp, hany⟩, hbx, hB⟩ hlt
    have hcost := costL_pre hlt
    have hslen := quoteAll_len pre
    rw [costL_append] at hcost
    have hx1 : costL [x] = x.2.length + 1 := by simp [costL]
    have hql := quoteL_len x.2
    have hstr : quoteAll (pre ++ [x]) = quoteAll pre ++ (quoteL x.2 ++ [10]) := by simp [quoteAll]
    have hanyx : (pre ++ [x]).any longQ = longQ x := by rw [List.any_append, hany]; simp
    have hltc := blk_lt hcn0
    have HA := Lib.hid (add_any w.heap.size w1.heap.size (Lib.byteCells (quoteAll pre)) x.2 W (by omega) hbd (by simp [Lib.byteCells]; omega) (Nat.le_of_lt hltc))
    have Hstr := Lib.hid hstr
    have hcellf : W.cell? ⟨w1.heap.size + 1, 0, none⟩ = some (.func (.func 45) #[] #[.pointer (some ⟨w1.heap.size, 0, none⟩)]) := (blk_cell hfn 0).trans rfl
    have HCN0 := Aside0.mk hcn0
    have HCN1 := Aside0.mk hcn1
    have HFN := Aside0.mk hfn
    have HBX := Aside0.mk hbx
    have HB := Aside0.mk hB
    clear hstr hbd hbx hB hcost hslen hx1 hany hcn0 hcn1 hfn
    by_cases h9 : ((quoteL x.2).length : Int) ≤ 998
    · have hlq : longQ x = false := by unfold longQ; exact decide_eq_false (by omega)
      have hdec : decide (((quoteL x.2).length : Int) ≤ 998) = true := decide_eq_true h9
      rw [hdec] at HA
      rw [hlq] at hanyx
      have Hany := Lib.hid hanyx
      clear hanyx hlq hdec h9 hql
      gi_wp2_with (refine ⟨trivial, ?_⟩; gi_at_call 45; refine (CallsIn.inRound l (callsIn_wide.2 HA.out)).mono ?_; rintro e w3 ⟨rfl, hb3, hbl3, hsib3, hko3⟩; have HB3 := Aside0.mk hb3; have HBL3 := Aside0.mk hbl3; have HS3 := Aside0.mk hsib3; have HK3 := Aside0.mk hko3; clear hb3 hbl3 hsib3 hko3)
      refine ⟨HK3.out, ⟨⟨?_, (HS3.out _ _ 9 HCN0.out (by decide) (by decide)).trans HCN0.out, (HS3.out _ _ 26 HCN1.out (by decide) (by decide)).trans HCN1.out, (HS3.out _ _ 38 HFN.out (by decide) (by decide)).trans HFN.out, hlt, Hany.out⟩, ?_, HB.out.trans HBL3.out⟩⟩
      · rw [Hstr.out]
        have h1 : Lib.byteCells (quoteAll pre ++ (quoteL x.2 ++ [10])) = Lib.byteCells (quoteAll pre) ++ Lib.byteCells (quoteL x.2 ++ [10]) := by simp [Lib.byteCells]
        rw [h1]
        exact HB3.out
      · obtain ⟨v, hv⟩ := HBX.out
        exact ⟨v, (HS3.out _ _ 9 hv (by decide) (by decide)).trans hv⟩
    · have hlq : longQ x = true := by unfold longQ; exact decide_eq_true (by omega)
      have hdec : decide (((quoteL x.2).length : Int) ≤ 998) = false := decide_eq_false h9
      rw [hdec] at HA
      rw [hlq] at hanyx
      have Hany := Lib.hid hanyx
      clear hanyx hlq hdec h9 hql
      gi_wp2_with (refine ⟨trivial, ?_⟩; gi_at_call 45; refine (CallsIn.inRound l (callsIn_wide.2 HA.out)).mono ?_; rintro e w3 ⟨rfl, hb3, hbl3, hsib3, hko3⟩; have hcm0 := (hsib3 _ _ 9 HCN0.out (by decide) (by decide)).trans HCN0.out; have hcm1 := (hsib3 _ _ 26 HCN1.out (by decide) (by decide)).trans HCN1.out; have hce0 : w3.cell? ⟨w.heap.size, 0, none⟩ = some (.string ⟨#[]⟩) := (blk_cell hcm0 0).trans rfl; have hce1 : w3.cell? ⟨w.heap.size + 1, 0, none⟩ = some (.int .i64 0) := (blk_cell hcm1 0).trans rfl; have hfz0 := blk_frozen hcm0 0; have hfz1 := blk_frozen hcm1 0; have HCM0 := Aside0.mk hcm0; have HCM1 := Aside0.mk hcm1; have HBL3 := Aside0.mk hbl3; have HK3 := Aside0.mk hko3; clear hb3 hbl3 hsib3 hko3 hcm0 hcm1)
      refine ⟨(HK3.out.trans (KeepsOthers.setCell _ _ _)).trans (KeepsOthers.setCell _ _ _), rfl, Hany.out, blk_far (blk_put HCM0.out 0 _ rfl) (p := ⟨w.heap.size + 1, 0, none⟩) (by simp) _, blk_put (blk_far HCM1.out (p := ⟨w.heap.size, 0, none⟩) (by simp) _) 0 _ rfl,
        ((HB.out.trans HBL3.out).setCell (p := ⟨w.heap.size, 0, none⟩) (Nat.le_refl _) _).setCell (p := ⟨w.heap.size + 1, 0, none⟩) (Nat.le_succ _) _⟩
  case done =>
    rintro D ys W hD rfl ⟨⟨hbd, hcn0, hcn1, hfn, _, hany⟩, _, hB⟩ hK
    have hw0 := Hsz.out
    have hq0 : quoteR (linesU s.data.toList) = if 65536 < (quoteAll (linesU s.data.toList)).length then (⟨#[]⟩, 5) else (mkS (quoteAll (linesU s.data.toList)), 0) := by unfold quoteR; rw [if_neg (by simp [hany])]
    have HRq := Lib.hid (HRR.out.symm.trans hq0)
    clear HRR
    generalize quoteAll (linesU s.data.toList) = L at *
    have hln := Tryz.Builder_Len _ _ _ _ hbd
    rw [Lib.byteCells_length] at hln
    have HLN := Lib.hid hln
    have hce0 : W.cell? ⟨w.heap.size, 0, none⟩ = some (.string ⟨#[]⟩) := (blk_cell hcn0 0).trans rfl
    have hce1 : W.cell? ⟨w.heap.size + 1, 0, none⟩ = some (.int .i64 0) := (blk_cell hcn1 0).trans rfl
    have hfz0 := blk_frozen hcn0 0
    have hfz1 := blk_frozen hcn1 0
    have HCN0 := Aside0.mk hcn0
    have HCN1 := Aside0.mk hcn1
    have HBD := Aside0.mk hbd
    have HB := Aside0.mk hB
    have HKK := Aside0.mk hK
    clear hln hcn0 hcn1 hbd hB hK hq0 hany hfn hc0 hc1 hb hf hl hB0
    by_cases hlong : 65536 < L.length
    · obtain rfl : R = (⟨#[]⟩, 5) := by rw [HRq.out, if_pos hlong]
      have hd : decide ((65536 : Int) < (L.length : Int)) = true := decide_eq_true (by omega)
      have hd' : decide (65536 < L.length) = true := decide_eq_true hlong
      clear hlong
      gi_wp2_with (first | (refine ⟨trivial, ?_⟩; gi_at_call 49; refine (callsIn_wide.2 HLN.out).mono ?_; rintro e w2 ⟨rfl, rfl⟩))
      obtain ⟨hc5, hc6⟩ := two_results (w := w) (D := D) (t := ⟨#[]⟩) (c := 5) w.heap.size HCN0.out HCN1.out (by omega)
      have hKe := (KeepsOthers.setCell _ ⟨w.heap.size + 1, 0, none⟩ (.int .i64 5)).same D _ ((KeepsOthers.setCell _ ⟨w.heap.size, 0, none⟩ (.string ⟨#[]⟩)).same D _ (HKK.out) rfl) rfl
      refine ⟨by simp, .inl ⟨_, _, rfl, run_takeDeferred hKe, ?_⟩⟩
      refine ⟨.tuple #[.string ⟨#[]⟩, .int .i64 5], ?_, rfl, below_putObj (((HB.out).setCell (p := ⟨w.heap.size, 0, none⟩) (Nat.le_refl _) _).setCell (p := ⟨w.heap.size + 1, 0, none⟩) (Nat.le_succ _) _) (Nat.le_refl _) (by omega) _⟩
      simp [results, Tryz.f21, go_sem, hc5, hc6]
    · obtain rfl : R = (mkS L, 0) := by rw [HRq.out, if_neg hlong]
      have hd : decide ((65536 : Int) < (L.length : Int)) = false := decide_eq_false (by omega)
      have hd' : decide (65536 < L.length) = false := decide_eq_false hlong
      clear hlong
      gi_wp2_with (first
        | (refine ⟨trivial, ?_⟩; gi_at_call 49; refine (callsIn_wide.2 HLN.out).mono ?_; rintro e w2 ⟨rfl, rfl⟩)
        | (refine ⟨trivial, ?_⟩; gi_at_call 50; refine (callsIn_wide.2 (builderString _ _ _ _ HBD.out HB.out.size)).mono ?_; rintro e w2 ⟨rfl, hb2, ho2⟩; have hcm0 := others_deferred ho2 HCN0.out (by omega) (fun _ _ e => by cases e); have hcm1 := others_deferred ho2 HCN1.out (by omega) (fun _ _ e => by cases e); have hce0 : w2.cell? ⟨w.heap.size, 0, none⟩ = some (.string ⟨#[]⟩) := (blk_cell hcm0 0).trans rfl; have hce1 : w2.cell? ⟨w.heap.size + 1, 0, none⟩ = some (.int .i64 0) := (blk_cell hcm1 0).trans rfl; have hfz0 := blk_frozen hcm0 0; have hfz1 := blk_frozen hcm1 0; have HCM0 := Aside0.mk hcm0; have HCM1 := Aside0.mk hcm1; have HB2 := Aside0.mk hb2; have HO2 := Aside0.mk ho2; clear hb2 ho2 hcm0 hcm1))
      obtain ⟨hc5, hc6⟩ := two_results (w := w) (D := D) (t := (mkS L)) (c := 0) w.heap.size HCM0.out HCM1.out (by omega)
      have hKe := (KeepsOthers.setCell _ ⟨w.heap.size + 1, 0, none⟩ (.int .i64 0)).same D _ ((KeepsOthers.setCell _ ⟨w.heap.size, 0, none⟩ (.string (mkS L))).same D _ (others_deferred HO2.out HKK.out (by omega) (fun _ _ e => by cases e)) rfl) rfl
      refine ⟨by simp, .inl ⟨_, _, rfl, run_takeDeferred hKe, ?_⟩⟩
      refine ⟨.tuple #[.string (mkS L), .int .i64 0], ?_, rfl, below_putObj (((HB.out.trans HB2.out).setCell (p := ⟨w.heap.size, 0, none⟩) (Nat.le_refl _) _).setCell (p := ⟨w.heap.size + 1, 0, none⟩) (Nat.le_succ _) _) (Nat.le_refl _) (by omega) _⟩
      simp [results, Tryz.f21, go_sem, hc5, hc6]
  case stop =>
    rintro D c pre W hD hpre ⟨rfl, hany, hcn0, hcn1, hB⟩ hK
    have hw0 := Hsz.out
    have hq : quoteR (linesU s.data.toList) = (⟨#[]⟩, 5) := by
      unfold quoteR
      obtain ⟨r, hr⟩ := hpre
      rw [if_pos (by rw [← hr, List.any_append, hany]; rfl)]
    obtain rfl : R = (⟨#[]⟩, 5) := HRR.out.symm.trans hq
    clear hq hany hc0 hc1 hb hf hl hB0
    gi_wp2
    have hc5 : (W.putObj D (.deferred none)).cell? ⟨w.heap.size, 0, none⟩ = some (.string ⟨#[]⟩) := (blk_cell (blk_putObj hcn0 (by omega)) 0).trans rfl
    have hc6 : (W.putObj D (.deferred none)).cell? ⟨w.heap.size + 1, 0, none⟩ = some (.int .i64 5) := (blk_cell (blk_putObj hcn1 (by omega)) 0).trans rfl
    refine ⟨by simp, .inl ⟨_, _, rfl, run_takeDeferred hK, ?_⟩⟩
    refine ⟨.tuple #[.string ⟨#[]⟩, .int .i64 5], ?_, rfl, below_putObj hB (Nat.le_refl _) (by omega) _⟩
    simp [results, Tryz.f21, go_sem, hc5, hc6]

def GV.Quote.f (k : Nat) (s : ByteArray) : Option (ByteArray × Int) :=
  (PC.article_CheckBody.f k s).bind fun x => if x.2 ≠ 0 then some (⟨#[]⟩, x.2) else if s.size ≤ 1000000 then some (quoteR (linesU s.data.toList)) else none
set_option maxHeartbeats 1000000 in
theorem quote_bad (s : ByteArray) (w : World) (k : Nat) (a c : Int) (hc0 : c ≠ 0) (hcb : PC.article_CheckBody.f k s = some (a, c)) :
    Calls Tryz.prog 21 #[.string s] w fun e w' => e = .returned (.tuple #[.string ⟨#[]⟩, .int .i64 c]) ∧ Below w.heap.size w w' := by
  have hcn : (c != 0) = true := bne_iff_ne.2 hc0
  have HC := Lib.hid (fun w => PC.article_CheckBody.calls k s a c w hcb)
  clear hcb hc0
  have hr0 := blk_alloc (heap_alloc_last w (.cells #[.string ⟨#[]⟩] 9)) (.cells #[.int .i64 0] 26)
  have hr1 : ((w.alloc (.cells #[.string ⟨#[]⟩] 9)).alloc (.cells #[.int .i64 0] 26)).heap[w.heap.size + 1]? = some (.cells #[.int .i64 0] 26 (0, 0)) := by
    have := heap_alloc_last (w.alloc (.cells #[.string ⟨#[]⟩] 9)) (.cells #[.int .i64 0] 26)
    rwa [World.size_alloc] at this
  have HR0 := Aside0.mk hr0
  have HR1 := Aside0.mk hr1
  clear hr0 hr1
  go_enter Tryz.func21, Tryz.ntmps21
  go_wp2_with (go_at_call 17; refine (HC.out _).mono ?_; rintro e w1 ⟨rfl, hb1⟩; have hc0 := blk_below HR0.out hb1; have hc1 := blk_below HR1.out hb1; have hce0 : w1.cell? ⟨w.heap.size, 0, none⟩ = some (.string ⟨#[]⟩) := (blk_cell hc0 0).trans rfl; have hce1 : w1.cell? ⟨w.heap.size + 1, 0, none⟩ = some (.int .i64 0) := (blk_cell hc1 0).trans rfl; have hfz0 := blk_frozen hc0 0; have hfz1 := blk_frozen hc1 0; have HC0 := Aside0.mk hc0; have HC1 := Aside0.mk hc1; have HB1 := Aside0.mk ((((Below.refl _ w).alloc (Nat.le_refl _) (.cells #[.string ⟨#[]⟩] 9)).alloc (by simp) (.cells #[.int .i64 0] 26)).trans (hb1.mono (by simp; omega))); clear hb1 hc1 hc0)
  have a0 := blk_far (blk_put HC0.out 0 (.string ⟨#[]⟩) rfl) (p := ⟨w.heap.size + 1, 0, none⟩) (by simp) (.int .i64 c)
  have a1 := blk_put (blk_far HC1.out (p := ⟨w.heap.size, 0, none⟩) (by simp) (.string ⟨#[]⟩)) 0 (.int .i64 c) rfl
  have hc5 := (blk_cell a0 0).trans rfl
  have hc6 := (blk_cell a1 0).trans rfl
  refine bodyPost_ret (v := .tuple #[.string ⟨#[]⟩, .int .i64 c]) (by simp [results, Tryz.f21, go_sem, hc5, hc6]) rfl ⟨rfl, below_set (below_set HB1.out (Nat.le_refl _)) (Nat.le_succ _)⟩
theorem GV.Quote.calls (k : Nat) (a0 : ByteArray) (r1 : ByteArray) (r2 : Int) (w : World) (h : GV.Quote.f k a0 = some (r1, r2)) :
    Calls Tryz.prog 21 #[.string a0] w fun e w' => e = .returned (.tuple #[.string r1, .int .i64 r2]) ∧ Below w.heap.size w w' := by
  unfold GV.Quote.f at h
  cases hc : PC.article_CheckBody.f k a0 with
  | none => rw [hc] at h; simp at h
  | some x =>
    obtain ⟨a, c⟩ := x
    rw [hc] at h
    simp only [Option.bind_some] at h
    by_cases h2 : c = 0
    · subst h2
      rw [if_neg (by simp)] at h
      by_cases h3 : a0.size ≤ 1000000
      · rw [if_pos h3] at h
        have h4 := Option.some.inj h
        have := quote_main a0 w h3 k a hc
        rw [h4] at this
        exact this
      · rw [if_neg h3] at h; simp at h
    · rw [if_pos h2] at h
      simp only [Option.some.injEq, Prod.mk.injEq] at h
      obtain ⟨rfl, rfl⟩ := h
      exact quote_bad a0 w k a _ h2 hc
end Go.Proofs.YtfeciafdioepiaaGreatDoor
set_option linter.unusedVariables false
set_option linter.unusedSimpArgs false
namespace Go.Proofs.YtfeciafdioepiaaGreatDoor
open Go.RowKit Go.Shelf Go.Proofs Go.Proofs.YtfeciafdioepiaaGreatDoorW.PrintWords Go.Proofs.YtfeciafdioepiaaGreatDoorW.PrintMore Go.Proofs.YtfeciafdioepiaaGreatDoor.PA
def knF : List S76 := [⟨mkS [83, 117, 98, 106, 101, 99, 116], mkS [97]⟩]
theorem kn1 : GV.AParse.f 60 ⟨#[83, 117, 98, 106, 101, 99, 116, 58, 32, 97, 10, 10, 104, 101, 108, 108, 111, 10]⟩ = some (knF, ⟨#[104, 101, 108, 108, 111, 10]⟩, 0, 0) := by kernel_rfl
theorem kn2 : PC.article_Print.f 60 knF ⟨#[104, 101, 108, 108, 111, 10]⟩ = some (⟨#[83, 117, 98, 106, 101, 99, 116, 58, 32, 97, 10, 10, 104, 101, 108, 108, 111, 10]⟩, 0) := by decide +kernel
theorem kn3 : GV.AParse.f 60 ⟨#[83, 117, 98, 106, 101, 99, 116, 58, 32, 97, 10, 10, 120]⟩ = some ([], ⟨#[]⟩, 13, 4) := by kernel_rfl
theorem kn4 : GV.Quote.f 60 ⟨#[97, 10, 62, 32, 98, 10, 10]⟩ = some (⟨#[62, 32, 97, 10, 62, 62, 32, 98, 10, 62, 10]⟩, 0) := by decide +kernel
theorem kn5 : markN [62, 62, 32, 120] = 2 ∧ restL [62, 62, 32, 120] = [120] := by decide +kernel
theorem kn6 : (linesU [97, 10, 98]).length = 2 := by decide +kernel
end Go.Proofs.YtfeciafdioepiaaGreatDoor
set_option linter.unusedVariables false
set_option linter.unusedSimpArgs false
namespace Go.Proofs.YtfeciafdioepiaaGreatDoor
open Go.RowKit Go.Shelf Go.Proofs Go.Proofs.YtfeciafdioepiaaGreatDoorW.PrintWords Go.Proofs.YtfeciafdioepiaaGreatDoorW.PrintMore Go.Proofs.YtfeciafdioepiaaGreatDoor.PA
attribute [local go_sem] Oper.semAt_some
set_option maxHeartbeats 4000000 in
set_option maxRecDepth 100000 in
theorem known_any (w : World) (hgm : Gm w) : Calls Tryz.prog 14 #[] w fun e w' => e = .returned (.bool true) ∧ Below w.heap.size w w' := by
  have hu76 := Tryz.underlying76
  have HGM := Aside0.mk hgm
  clear hgm
  go_enter Tryz.func14, Tryz.ntmps14
  go_wp2_with fail
  refine (GV.AParse.calls 60 _ _ _ _ _ _ HGM.out kn1).mono ?_
  rintro e w1 ⟨v1, rfl, hR1, hb1⟩
  obtain ⟨g, c1, rfl⟩ : ∃ g c, v1 = .slice (some ⟨g, 0, none⟩) knF.length c := by
    obtain ⟨inner, ho⟩ := Kd.R_own hR1
    rcases ho.2 with ⟨_, h0⟩ | ⟨g, c, cur, hv, _⟩
    · exact absurd h0 (by decide)
    · exact ⟨g, c, hv⟩
  have HR1 := Aside0.mk (Kd.R_alloc hR1 (.cells #[.slice (some ⟨g, 0, none⟩) knF.length c1, .string ⟨#[104, 101, 108, 108, 111, 10]⟩] 25))
  have HA1 := Aside0.mk (blk_new w1 (.cells #[.slice (some ⟨g, 0, none⟩) knF.length c1, .string ⟨#[104, 101, 108, 108, 111, 10]⟩] 25))
  have HB1 := Aside0.mk (below_alloc hb1 (.cells #[.slice (some ⟨g, 0, none⟩) knF.length c1, .string ⟨#[104, 101, 108, 108, 111, 10]⟩] 25))
  have HGM1 := Aside0.mk (gm_at (gm_at HGM.out hb1) ((Below.refl _ _).alloc (Nat.le_refl _) (.cells #[.slice (some ⟨g, 0, none⟩) knF.length c1, .string ⟨#[104, 101, 108, 108, 111, 10]⟩] 25)))
  clear hR1 hb1
  go_wp2_with fail
  refine (PC.article_Print.calls 60 (some ⟨g, 0, none⟩) c1 knF _ _ _ _ (Kd.R_reads' HR1.out).2.2 (Kd.R_reads' HR1.out).2.1 kn2).mono ?_
  rintro e w2 ⟨rfl, hb2⟩
  have HB2 := Aside0.mk (HB1.out.trans (hb2.mono HB1.out.size))
  have HR2 := Aside0.mk (Kd.R_below HR1.out hb2)
  have HA2 := Aside0.mk (blk_below HA1.out hb2)
  have HGM2 := Aside0.mk (gm_at HGM1.out hb2)
  clear hb2 HR1 HA1 HB1 HGM1
  go_wp2_with fail
  refine (GV.AParse.calls 60 _ _ _ _ _ _ HGM2.out kn3).mono ?_
  rintro e w3 ⟨v3, rfl, hR3, hb3⟩
  obtain ⟨A3, c3, e3⟩ := Kd.R_slice hR3
  subst e3
  have HB3 := Aside0.mk (HB2.out.trans (hb3.mono HB2.out.size))
  have HR3 := Aside0.mk (Kd.R_below HR2.out hb3)
  have HA3 := Aside0.mk (blk_below HA2.out hb3)
  clear hR3 hb3 HB2 HR2 HA2 HGM2
  go_wp2_with fail
  refine (GV.Quote.calls 60 _ _ _ _ kn4).mono ?_
  rintro e w4 ⟨rfl, hb4⟩
  have HB4 := Aside0.mk ((below_alloc HB3.out (.cells #[.slice A3 0 c3, .string ⟨#[]⟩] 25)).trans (hb4.mono (below_alloc HB3.out _).size))
  have HA4 := Aside0.mk (blk_below (blk_alloc HA3.out (.cells #[.slice A3 0 c3, .string ⟨#[]⟩] 25)) hb4)
  have hR4 := Kd.R_below (Kd.R_alloc HR3.out (.cells #[.slice A3 0 c3, .string ⟨#[]⟩] 25)) hb4
  obtain ⟨ad, e5, hx0, hx1⟩ := at_T76 (Kd.R_reads' hR4).2.2 0 (by decide) (by decide)
  injection e5 with e5
  subst e5
  have hx0' : w4.cell? ⟨g, 0, none⟩ = some (.string ⟨#[83, 117, 98, 106, 101, 99, 116]⟩) := hx0
  have hx1' : w4.cell? ⟨g, 1, none⟩ = some (.string ⟨#[97]⟩) := hx1
  have ha0 : w4.cell? ⟨w1.heap.size, 0, none⟩ = some (.slice (some ⟨g, 0, none⟩) 1 c1) := (blk_cell HA4.out 0).trans rfl
  have ha1 : w4.cell? ⟨w1.heap.size, 1, none⟩ = some (.string ⟨#[104, 101, 108, 108, 111, 10]⟩) := (blk_cell HA4.out 1).trans rfl
  clear hR4 hb4 HR3 HA3 HB3 hx0 hx1
  go_wp2_with fail
  refine (level_any ⟨#[62, 62, 32, 120]⟩ _ (by decide)).mono ?_
  rintro e w5 ⟨rfl, hd⟩
  obtain ⟨n5, rfl⟩ := hd.1
  have e1 : (⟨#[62, 62, 32, 120]⟩ : ByteArray).data.toList = [62, 62, 32, 120] := rfl
  rw [e1, kn5.1, kn5.2]
  have e2 : mkS [120] = ⟨#[120]⟩ := rfl
  rw [e2]
  clear e1 e2 hd
  have HCT := Lib.hid (fun w => count_any ⟨#[97, 10, 98]⟩ w (by decide))
  go_wp2_with (go_at_call 39; refine (HCT.out _).mono ?_; rintro e w6 ⟨he, hb6⟩; rw [show (linesU (⟨#[97, 10, 98]⟩ : ByteArray).data.toList).length = 2 from kn6] at he; subst he; have HB6 := Aside0.mk ((pw_below_drewN HB4.out n5).trans (hb6.mono HB4.out.size)); clear hb6)
  go_ret
  exact ⟨rfl, HB6.out⟩
theorem GV.known.calls (r : Bool) (w : World) (hgm : Gm w) (h : GV.known.f = some r) : Calls Tryz.prog 14 #[] w fun e w' => e = .returned (.bool r) ∧ Below w.heap.size w w' := by
  injection h with h
  subst h
  exact known_any w hgm
end Go.Proofs.YtfeciafdioepiaaGreatDoor
set_option linter.unusedVariables false
namespace Go.Proofs.YtfeciafdioepiaaGreatDoorW.PrintWords
open Go Go.RowKit
namespace Kd
section
variable {P : Program} {ops : List Oper}
end
variable {P : Program} {ops : Array Oper} {rest : List Oper} {o : Oper} {a : Act} {Q : Exit → Act → World → Prop} {α : Type}
/-- make([]T, 0, n): a row of one's own with no element. -/
theorem R_makeCap (d : Kd α) {w0 W : World} (base e : Nat) (hgd : o.guard = none) {N : Tmp} (hd : o.dst = some N) (t : TypeId) (x y : Operand) (ho : o.op = .makeSlice t x y) (n : Int) (hx : a.eval x = .int .i64 0) (hy : a.eval y = .int .i64 n)
    (ht : P.underlying t = some (.slice e)) (z : Value) (bytes : Nat) (hinfo : (P.info? e).map (fun i => (i.zero, i.size, i.bytes)) = some (some z, d.sz, bytes)) (hz : z.cells.size = d.sz) (hs0 : 0 < d.sz) (hb0 : 0 < bytes)
    (z0 : α) {ok okp : Nat → Prop} (hzero : d.M W base okp z0 z.cells.toList) (hok : ∀ k, okp k → ok k) (hfresh : ok W.heap.size) (h0 : 0 ≤ n) (hl : n.toNat * bytes ≤ 281474976710656) (HB : Below base w0 W) (hbase : base ≤ W.heap.size)
    (h : ∀ v1 w1, d.R e w1 base ok v1 (List.replicate (0 : Int).toNat z0) → Below base w0 w1 → W.grownBy w1 none → (∃ b, v1.ownBlock = some b ∧ W.heap.size ≤ b) → wpList P ops Q rest (a.put o.dst v1) w1) : wpList P ops Q (o :: rest) a W := by
  obtain ⟨m, rfl⟩ := Int.eq_ofNat_of_zero_le h0
  simp only [Int.toNat_natCast] at hl
  obtain ⟨i0, hi, hzz⟩ := Option.map_eq_some_iff.1 hinfo
  simp only [Prod.mk.injEq] at hzz
  obtain ⟨hz0, hz1, hz2⟩ := hzz
  have hm : m ≤ 281474976710656 := Nat.le_trans (Nat.le_mul_of_pos_right _ hb0) hl
  have hr := run_make (P := P) W t e i0 z ht hi hz0 .i64 .i64 0 (m : Int) (by omega) (by omega)
    (by
      have h3 : ((i0.bytes * m : Nat) : Int) ≤ 281474976710656 := by rw [hz2, Nat.mul_comm]; omega
      rwa [Int.natCast_mul] at h3) (by omega)
  simp only [Int.toNat_natCast, Int.toNat_zero] at hr
  rw [hz1] at hr
  have hrun : (execOp a.eval o).run P W = .ok (.value (.slice (some ⟨W.heap.size, 0, none⟩) 0 m)) (W.alloc (.cells (madeCells z.cells (m * d.sz)) e)) := by
    simp [execOp, ho, hx, hy, hr]
  refine event_run hgd hrun (h _ _ ⟨fun k hk => ?_, [], ?_, ?_⟩ (HB.alloc hbase _) (World.grownBy_alloc W _ none) ⟨W.heap.size, by simp [Value.ownBlock], Nat.le_refl _⟩)
  · have : W.heap.size = k := by simpa [Value.ownBlock] using hk
    subst this
    exact hfresh
  · exact World.ownsRow_made W _ m hbase (by simp [maxLen]; omega) (size_madeCells _ _)
  · exact ⟨by simp, fun j p hj => by simp at hj⟩
end Kd
end Go.Proofs.YtfeciafdioepiaaGreatDoorW.PrintWords
set_option linter.unusedVariables false
set_option linter.unusedSimpArgs false
namespace Go.Proofs.YtfeciafdioepiaaGreatDoor
open Go.RowKit Go.Shelf Go.Proofs Go.Proofs.YtfeciafdioepiaaGreatDoorW.PrintWords Go.Proofs.YtfeciafdioepiaaGreatDoorW.PrintMore Go.Proofs.YtfeciafdioepiaaGreatDoor.PA
attribute [local go_sem] Oper.semAt_some
set_option maxHeartbeats 1000000 in
set_option maxRecDepth 100000 in
theorem rparse0_any (w : World) : Calls Tryz.prog 38 #[.string ⟨#[]⟩] w fun e w' => e = .returned (.tuple #[.slice none 0 0, .int .i64 0, .int .i64 0]) ∧ Below w.heap.size w w' := by
  go_enter Tryz.func38, Tryz.ntmps38
  go_wp2
  go_loopg [5, 6] 1 (fun kq v5 v6 w' => v5 = .slice none 0 0 ∧ v6 = .int .i64 0 ∧ Aside0 (Below w.heap.size w w'))
  case atStart => exact ⟨rfl, rfl, ⟨by repeat (first | exact Below.refl _ _ | apply below_alloc | apply pw_below_drewN | apply below_drew1)⟩⟩
  case round =>
    obtain ⟨rfl, rfl, HB⟩ := hrel
    go_wp2
    exact bodyPost_ret (v := .tuple #[.slice none 0 0, .int .i64 0, .int .i64 0]) (by simp [results, Tryz.results38, go_sem]) rfl ⟨rfl, by repeat (first | exact HB.out | apply below_alloc | apply pw_below_drewN | apply below_drew1)⟩
set_option maxHeartbeats 1000000 in
set_option maxRecDepth 100000 in
theorem rprint0_any (A : Option Addr) (c : Nat) (w : World) : Calls Tryz.prog 44 #[.slice A 0 c] w fun e w' => e = .returned (.tuple #[.string ⟨#[]⟩, .int .i64 0]) ∧ Below w.heap.size w w' := by
  go_enter Tryz.func44, Tryz.ntmps44
  go_wp2
  go_loopg [4, 5] 1 (fun kq v4 v5 w' => v4 = .string ⟨#[]⟩ ∧ v5 = .int .i64 0 ∧ Aside0 (Below w.heap.size w w'))
  case atStart => exact ⟨rfl, rfl, ⟨by repeat (first | exact Below.refl _ _ | apply below_alloc | apply pw_below_drewN | apply below_drew1)⟩⟩
  case round =>
    obtain ⟨rfl, rfl, HB⟩ := hrel
    go_wp2
    go_ret2
    exact ⟨rfl, by repeat (first | exact HB.out | apply below_alloc | apply pw_below_drewN | apply below_drew1)⟩
def GV.RParse0.f (k : Nat) (s : ByteArray) : Option (List S78 × Int × Int) := if s = ⟨#[]⟩ then some ([], 0, 0) else none
theorem GV.RParse0.calls (k : Nat) (a0 : ByteArray) (r1 : List (S78)) (r2 : Int) (r3 : Int) (w : World) (h : GV.RParse0.f k a0 = some (r1, r2, r3)) :
    Calls Tryz.prog 38 #[.string a0] w fun e w' => ∃ v0_ : Value, e = .returned (.tuple #[v0_, .int .i64 r2, .int .i64 r3]) ∧ Kd.R k78 78 w' w.heap.size (fun _ => True) v0_ r1 ∧ Below w.heap.size w w' := by
  unfold GV.RParse0.f at h
  split at h
  · rename_i hs
    subst hs
    injection h with h
    injection h with h1 h2
    injection h2 with h2 h3
    subst h1 h2 h3
    refine (rparse0_any w).mono ?_
    rintro e w' ⟨rfl, hb⟩
    exact ⟨_, rfl, Kd.R_nil _ _ _ _ _, hb⟩
  · cases h
def GV.RPrint0.f (k : Nat) (l : List S78) : Option (ByteArray × Int) := if l = [] then some (⟨#[]⟩, 0) else none
theorem GV.RPrint0.calls (k : Nat) (A0 : Option Addr) (c0 : Nat) (l0 : List (S78)) (r1 : ByteArray) (r2 : Int) (w : World) (hr0 : Kd.C k78 w A0 l0.length l0) (hc0 : l0.length ≤ c0) (h : GV.RPrint0.f k l0 = some (r1, r2)) :
    Calls Tryz.prog 44 #[.slice A0 l0.length c0] w fun e w' => e = .returned (.tuple #[.string r1, .int .i64 r2]) ∧ Below w.heap.size w w' := by
  unfold GV.RPrint0.f at h
  split at h
  · rename_i hs
    subst hs
    injection h with h
    injection h with h1 h2
    subst h1 h2
    exact rprint0_any A0 c0 w
  · cases h
end Go.Proofs.YtfeciafdioepiaaGreatDoor
