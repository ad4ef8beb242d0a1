/- Merged texts: H11, H12, H13, H14, H15 -/
import Derived.Test.YtfeciafdioepiaaPB1
set_option linter.unusedVariables false
set_option linter.unusedSimpArgs false
/- WriteString beside other rows; the contract of Field.Fold. -/
namespace Go.Proofs.Ytfeciafdioepiaa
open Go.RowKit Go.Proofs Go.Proofs.YtfeciafdioepiaaW.PrintWords Go.Proofs.Ytfeciafdioepiaa.PA

/-- The rows that are of no builder stay. -/
def Sib (w w' : World) : Prop := ∀ (k : Nat) (cs : Array Value) (T : TypeId), w.heap[k]? = some (Obj.cells cs T (0, 0)) → T ≠ 66 → T ≠ 5 → w'.heap[k]? = w.heap[k]?
theorem Sib.refl (w : World) : Sib w w := fun _ _ _ _ _ _ => rfl
theorem Sib.trans {w w1 w2 : World} (h : Sib w w1) (k : Sib w1 w2) : Sib w w2 := fun i cs T hi h1 h2 => (k i cs T ((h i cs T hi h1 h2).trans hi) h1 h2).trans (h i cs T hi h1 h2)
theorem Sib.below {w w1 : World} (h : Below w.heap.size w w1) : Sib w w1 := fun i cs T hi _ _ => h.block i (by
  rcases Nat.lt_or_ge i w.heap.size with h' | h'
  · exact h'
  · simp [Array.getElem?_eq_none h'] at hi)
theorem Sib.set_ {w : World} {b : Nat} {cs : Array Value} (hb : w.heap[b]? = some (.cells cs 66 (0, 0))) (j : Nat) (v : Value) : Sib w (w.setCell ⟨b, j, none⟩ v) := fun k cs' T hk h1 _ => by
  refine Below.heap_setCell _ _ _ _ ?_
  rintro rfl
  rw [hk] at hb
  injection hb with hb
  injection hb with _ hb
  exact h1 hb
theorem R_sib {α : Type} {d : Kd α} {e : Nat} {w w1 : World} {base : Nat} {ok : Nat → Prop} {v : Value} {xs : List α} (h : d.R e w base ok v xs) (hs : Sib w w1) (ht : ∀ q, q ∈ e :: d.E → q ≠ 66 ∧ q ≠ 5) : d.R e w1 base ok v xs :=
  Kd.R_mono (Kd.R_step (Kd.R_bound h) (fun k hk _ => by
    obtain ⟨_, _, _, q, hq, cells, hc⟩ := hk
    exact hs k cells q hc (ht q hq).1 (ht q hq).2)) (fun _ hk => hk.1)

theorem copyCheck2 (B b : Nat) (bs : List Value) (w : World) (h : Lib.IsBuilder 66 5 B b bs w) :
    Calls Try.prog 69 #[.pointer (some ⟨b, 0, none⟩)] w fun e w' => e = .returned (.tuple #[]) ∧ (Lib.BuilderAt 66 5 B b (.pointer (some ⟨b, 0, none⟩)) bs w' ∧ Below B w w' ∧ Sib w w') := by
  rcases h with h | h
  · refine (copyCheck_fresh b w h.cell0 h.shape h.frozen0).mono ?_
    rintro e w' ⟨rfl, rfl⟩
    obtain ⟨hB, v, hb, _⟩ := id h
    exact ⟨rfl, h.used _, (Below.refl B w).setCell (p := ⟨b, 0, none⟩) h.1 _, Sib.set_ hb 0 _⟩
  · refine (copyCheck_used b w h.cell0).mono ?_
    rintro e w' ⟨rfl, rfl⟩
    exact ⟨rfl, h, Below.refl B _, Sib.refl _⟩

set_option maxHeartbeats 2000000 in
set_option maxRecDepth 100000 in
theorem writeString2 (B b : Nat) (bs : List Value) (s : ByteArray) (w : World) (h : Lib.IsBuilder 66 5 B b bs w) (hlen : bs.length + s.size ≤ 140737488355328) (hBw : B ≤ w.heap.size) :
    Calls Try.prog 43 #[.pointer (some ⟨b, 0, none⟩), .string s] w fun e w' => e = .returned (.tuple #[.int .i64 s.size, .nilIface]) ∧ (Lib.BuilderAt 66 5 B b (.pointer (some ⟨b, 0, none⟩)) (bs ++ Lib.strCells s) w' ∧ Below B w w' ∧ Sib w w') := by
  obtain ⟨i0, hi, hz0, hz1, hz2⟩ := info_parts infoByte
  go_enter Try.func43, Try.ntmps43
  go_wp2_with (go_at_call 69; refine (copyCheck2 B b bs _ h).mono ?_)
  rintro e w1 ⟨rfl, h1, hb1, hs1⟩
  obtain ⟨hB, v, hbk, hown, hne⟩ := h1
  have c0 : w1.cell? ⟨b, 0, none⟩ = some (.pointer (some ⟨b, 0, none⟩)) := by rw [Lib.cell_of_heap hbk]; rfl
  have c1 : w1.cell? ⟨b, 1, none⟩ = some v := by rw [Lib.cell_of_heap hbk]; rfl
  go_wp2_with (at_builtin; refine Lib.wpList_append_own_string _ rfl _ _ 64 9 rfl B 5 i0 Try.underlying64 Try.underlying9 hi hz0 hz1 hz2 _ _ _ rfl hown s rfl ?c3 ?c4 ?c5 ?_)
  case c3 => unfold maxLen; omega
  case c4 => omega
  case c5 => have := hb1.size; omega
  intro v' w2 hown' hgrow _
  have hlt : b < w1.heap.size := by
    rcases Nat.lt_or_ge b w1.heap.size with h' | h'
    · exact h'
    · simp [Array.getElem?_eq_none h'] at hbk
  have hb2 : w2.heap[b]? = some (.cells #[.pointer (some ⟨b, 0, none⟩), v] 66 (0, 0)) := by
    rw [hgrow.block b hlt (fun e => hne e.symm)]
    exact hbk
  have d0 : w2.cell? ⟨b, 0, none⟩ = some (.pointer (some ⟨b, 0, none⟩)) := by rw [Lib.cell_of_heap hb2]; rfl
  have d1 : w2.cell? ⟨b, 1, none⟩ = some v := by rw [Lib.cell_of_heap hb2]; rfl
  have f1 : w2.frozen? ⟨b, 1, none⟩ = false := Lib.frozen_of_heap hb2 1
  have hs2 : Sib w1 w2 := fun k cs T hk h1 h2 => by
    refine hgrow.block k ?_ ?_
    · rcases Nat.lt_or_ge k w1.heap.size with h' | h'
      · exact h'
      · simp [Array.getElem?_eq_none h'] at hk
    · exact fun e => Lib.ownBlock_ne hown hk h2 e.symm
  obtain ⟨ao, n', cap, rfl⟩ : ∃ ao n' cap, v' = .slice ao n' cap := by
    rcases hown'.2 with ⟨hv, _⟩ | ⟨g, cap, cur, hv, _⟩
    · exact ⟨_, _, _, hv⟩
    · exact ⟨_, _, _, hv⟩
  go_wp2
  go_ret2
  refine ⟨rfl, ?_, ?_, (hs1.trans hs2).trans (Sib.set_ hb2 1 _)⟩
  · exact Lib.BuilderAt.put (T := 66) (e := 5) hB hb2 (bs' := bs ++ Lib.strCells s) (by simpa [Lib.strCells_length] using hown') (by decide)
  · exact (hb1.grown hgrow (by have := hb1.size; omega) (fun k hk => (hown.lt k hk).1)).setCell (p := ⟨b, 1, none⟩) hB _

theorem fresh_builder {w : World} {B b : Nat} (hB : B ≤ b) (hb : w.heap[b]? = some (.cells #[.pointer none, .slice none 0 0] 66 (0, 0))) : Lib.IsBuilder 66 5 B b (Lib.byteCells []) w :=
  .inl ⟨hB, .slice none 0 0, hb, World.ownsRow_nil _ _ _ _, by simp [Value.ownBlock]⟩

theorem mkS_append (a b : List UInt8) : mkS a ++ mkS b = mkS (a ++ b) := by
  have : ∀ x y : ByteArray, x.data.toList = y.data.toList → x = y := fun x y h => by
    cases x; cases y; simp at h; subst h; rfl
  apply this
  simp [mkS, ByteArray.data_append]
theorem IsBuilder_below {w w1 : World} {B b : Nat} {bs : List Value} (h : Lib.IsBuilder 66 5 B b bs w) (hb : Below w.heap.size w w1) : Lib.IsBuilder 66 5 B b bs w1 := by
  have key : ∀ p, Lib.BuilderAt 66 5 B b p bs w → Lib.BuilderAt 66 5 B b p bs w1 := by
    intro p h
    have hlt := h.lt
    obtain ⟨hB, v, hv, hown, hne⟩ := h
    refine ⟨hB, v, (hb.block b hlt).trans hv, ?_, hne⟩
    refine ⟨hown.1, ?_⟩
    rcases hown.2 with hn | ⟨g, cap, cur, rfl, hbg, hgg, rest⟩
    · exact .inl hn
    · exact .inr ⟨g, cap, cur, rfl, hbg, (hb.block g (Array.getElem?_eq_some_iff.1 hgg).1).trans hgg, rest⟩
  exact h.elim (fun x => .inl (key _ x)) (fun x => .inr (key _ x))

/-- The lines of a folded field. -/
def foldW : List (List UInt8) → List UInt8 → List UInt8 → Bool → List UInt8
  | [], out, line, _ => out ++ (line ++ [10])
  | x :: xs, out, line, e => if e = false ∧ 78 < line.length + 1 + x.length then foldW xs (out ++ (line ++ [10])) (32 :: x) false else foldW xs out (line ++ 32 :: x) false
def foldL (name body : List UInt8) : List UInt8 := foldW (wordsL body) [] (name ++ [58]) true
def costW (ws : List (List UInt8)) : Nat := sumL ws + 2 * ws.length
theorem costW_cons (x : List UInt8) (xs : List (List UInt8)) : costW (x :: xs) = x.length + 2 + costW xs := by
  simp [costW, sumL]; omega
theorem mkS_one (c : UInt8) : (⟨#[c]⟩ : ByteArray) = mkS [c] := rfl
theorem mkS_nil : (⟨#[]⟩ : ByteArray) = mkS [] := rfl
end Go.Proofs.Ytfeciafdioepiaa

/- The contract of Field.Fold. -/
namespace Go.Proofs.Ytfeciafdioepiaa
open Go.RowKit Go.Proofs Go.Proofs.YtfeciafdioepiaaW.PrintWords Go.Proofs.Ytfeciafdioepiaa.PA

def GV.Fold.f (k : Nat) (a b : ByteArray) : Option (ByteArray × Int) := (PB.field_Field_Check.f k a b).bind fun e => if e = 0 then (if a.size ≤ 1000000 ∧ b.size ≤ 1000000 then some (mkS (foldL a.data.toList b.data.toList), 0) else none) else some (⟨#[]⟩, e)
theorem GV.Fold.mono : ∀ a0 a1 k, LeO (GV.Fold.f k a0 a1) (GV.Fold.f (k + 1) a0 a1) := by
  intro a0 a1 k
  unfold GV.Fold.f
  refine LeO.bind (PB.field_Field_Check.mono _ _ _) (fun _ => ?_)
  exact LeO.refl _
theorem str_mk (s : ByteArray) : Lib.strCells s = Lib.byteCells s.data.toList := rfl

set_option maxHeartbeats 2000000 in
set_option maxRecDepth 100000 in
theorem GV.Fold.calls (k : Nat) (a0_0 a0_1 : ByteArray) (r1 : ByteArray) (r2 : Int) (w : World) (h : GV.Fold.f k a0_0 a0_1 = some (r1, r2)) :
    Calls Try.prog 15 #[.agg #[.string a0_0, .string a0_1]] w fun e w' => e = .returned (.tuple #[.string r1, .int .i64 r2]) ∧ Below w.heap.size w w' := by
  have hBX : (w.alloc (.cells #[.string a0_0, .string a0_1] 28)).heap[w.heap.size]? = some (.cells #[.string a0_0, .string a0_1] 28 (0, 0)) := by simpa using heap_alloc_new w (.cells #[.string a0_0, .string a0_1] 28)
  have HBX := Aside0.mk hBX
  have HW0 := Aside0.mk ((Below.refl w.heap.size w).alloc (Nat.le_refl _) (.cells #[.string a0_0, .string a0_1] 28))
  clear hBX
  obtain ⟨e0, he0, h1⟩ := Option.bind_eq_some_iff.mp h
  have He0 := Lib.hid he0
  clear h he0
  by_cases hz : e0 = 0
  · rw [if_pos hz] at h1
    subst hz
    split at h1
    · rename_i hsz
      obtain ⟨hsa, hsb⟩ := hsz
      injection h1 with h1
      injection h1 with h1 h2
      have HR := Lib.hid h1
      subst h2
      clear h1
      go_enter Try.func15, Try.ntmps15
      go_wp2_with fail
      refine (PB.field_Field_Check.calls k _ _ _ _ He0.out).mono ?_
      rintro e w1 ⟨rfl, hb1⟩
      have hB1 := HW0.out.trans (hb1.mono (by simp))
      have HBX1 := Aside0.mk ((hb1.block w.heap.size (by simp)).trans HBX.out)
      have hc0 := (blk_cell HBX1.out 0).trans rfl
      have hc1 := (blk_cell HBX1.out 1).trans rfl
      have hlt1 : w.heap.size ≤ w1.heap.size := hB1.size
      have hblt : w.heap.size < w1.heap.size := by have := hb1.size; simp at this; omega
      have HB1 := Aside0.mk hB1
      have hn1 : w.heap.size ≠ w1.heap.size := by omega
      clear hb1 hB1
      have HFB := Aside0.mk (fresh_builder (w := w1.alloc (.cells #[.pointer none, .slice none 0 0] 66)) (B := w.heap.size) (b := w1.heap.size) hlt1 (by simpa using heap_alloc_new w1 (.cells #[.pointer none, .slice none 0 0] 66)))
      go_wp2_with fail
      refine (ascii_Words.calls a0_1 _ (by omega)).mono ?_
      rintro e w2 ⟨v2, rfl, hR2, hb2⟩
      obtain ⟨A2, c2, rfl⟩ := Kd.R_slice hR2
      have hwl := wordsL_len a0_1.data.toList
      have hws := wordsL_sum a0_1.data.toList
      have hsa' : a0_0.data.toList.length = a0_0.size := by simp
      have hsb' : a0_1.data.toList.length = a0_1.size := by simp
      have hR2' : Kd.R Kd.string 9 w2 _ (fun _ => True) (.slice A2 (wordsB a0_1).length c2) ((wordsL a0_1.data.toList).map mkS) := hR2
      have HR2 := Aside0.mk hR2'
      have hcn : (wordsB a0_1).length = (wordsL a0_1.data.toList).length := by unfold wordsB; rw [List.length_map]
      rw [hcn] at HR2 ⊢
      have HFB2 := Aside0.mk (IsBuilder_below HFB.out hb2)
      have HB2 := Aside0.mk ((HB1.out.alloc hlt1 (.cells #[.pointer none, .slice none 0 0] 66)).trans (hb2.mono (by simp; omega)))
      have hbs2 : w1.heap.size < w2.heap.size := by have := hb2.size; simp at this; omega
      have hres : mkS (foldW (wordsL a0_1.data.toList) [] (a0_0.data.toList ++ [58]) true) = r1 := HR.out
      have hline : a0_0 ++ ⟨#[58]⟩ = mkS (a0_0.data.toList ++ [58]) := by rw [← mkS_append, mkS_data]; rfl
      have hcost : costW (wordsL a0_1.data.toList) ≤ 3000000 := by unfold costW; omega
      have hnl : (a0_0.data.toList ++ [58]).length ≤ 1000001 := by simp; omega
      rw [hline]
      generalize hws : wordsL a0_1.data.toList = ws at *
      generalize hnm : a0_0.data.toList ++ [58] = nm at *
      have Hres := Lib.hid hres
      have Hcost := Lib.hid hcost
      have Hnl := Lib.hid hnl
      have hwl3 : ws.length ≤ 1000001 := by omega
      clear hR2 hb2 hR2' hwl hws hsa' hsb' hcn hres hline hcost hnm HR hnl
      generalize hBb : w1.heap.size = b at *
      clear HFB HBX1 hc0 hc1 HB1 hBb
      go_wp2
      go_loopw [6, 7, 22] (fun v6 v7 v22 wr => ∃ (j : Nat) (out line : List UInt8) (e : Bool), j ≤ ws.length ∧ v22 = .int .i64 j ∧ v6 = .string (mkS line) ∧ v7 = .bool e ∧ Aside0 (mkS (foldW (ws.drop j) out line e) = r1) ∧ Aside0 (out.length + line.length + costW (ws.drop j) ≤ 5000000) ∧ Aside0 (Lib.IsBuilder 66 5 w.heap.size b (Lib.byteCells out) wr) ∧
        Aside0 (Below w.heap.size w wr) ∧ Aside0 (Kd.R Kd.string 9 wr (w1.alloc (.cells #[.pointer none, .slice none 0 0] 66)).heap.size (fun _ => True) (.slice A2 ws.length c2) (ws.map mkS))) (fun v6 v7 v22 _ => ws.length - (intOf v22).toNat)
      case atStart => exact ⟨0, [], nm, true, Nat.zero_le _, rfl, rfl, rfl, ⟨Hres.out⟩, ⟨by have := Hcost.out; have := Hnl.out; simp; omega⟩, HFB2, HB2, HR2⟩
      case round =>
        obtain ⟨j, out, line, e, hj, rfl, rfl, rfl, HE, HC, HBl, HW, HR⟩ := hrel
        by_cases hlt : j < ws.length
        · have hdk : ws.drop j = ws[j] :: ws.drop (j + 1) := List.drop_eq_getElem_cons hlt
          obtain ⟨ad, hA, hx0⟩ := Kd.at_string (Kd.R_reads' HR.out).2.2 j (by omega) (by simp; omega)
          have hget : rdOf ByteArray.empty (ws.map mkS) (j : Int) = mkS ws[j] := by
            unfold rdOf; rw [Int.toNat_natCast, List.getD_eq_getElem?_getD, List.getElem?_map, List.getElem?_eq_getElem hlt]; rfl
          rw [hget] at hx0
          rw [Int.toNat_natCast] at hx0
          have hE2 := HE.out
          have hC2 := HC.out
          rw [hdk] at hE2 hC2
          rw [costW_cons] at hC2
          generalize hxq : ws[j] = x at *
          have hxs := mkS_size x
          have hls := mkS_size line
          have hl1 : (mkS line ++ (⟨#[10]⟩ : ByteArray)) = mkS (line ++ [10]) := by rw [mkS_one, mkS_append]
          have hl2 : (mkS line ++ (⟨#[32]⟩ : ByteArray)) = mkS (line ++ [32]) := by rw [mkS_one, mkS_append]
          have hl3 : ((⟨#[]⟩ : ByteArray) ++ (⟨#[32]⟩ : ByteArray)) = mkS [32] := by rw [mkS_one, mkS_nil, mkS_append]; rfl
          have Hl1 := Lib.hid hl1
          have Hl2 := Lib.hid hl2
          have Hl3 := Lib.hid hl3
          have Hxs := Lib.hid hxs
          have Hls := Lib.hid hls
          have hE3 : mkS (if e = false ∧ 78 < line.length + 1 + x.length then foldW (ws.drop (j + 1)) (out ++ (line ++ [10])) (32 :: x) false else foldW (ws.drop (j + 1)) out (line ++ 32 :: x) false) = r1 := hE2
          have HE3 := Lib.hid hE3
          subst hA
          clear hdk hget hE2 hE3 hxq hl1 hl2 hl3 HE HC
          have hxs1 : (mkS x).size ≤ 5000000 := by omega
          have hls1 : (mkS line).size ≤ 5000000 := by omega
          rcases Bool.eq_false_or_eq_true e with rfl | rfl
          · have hE4 := HE3.out
            rw [if_neg (by simp)] at hE4
            have HE4 := Aside0.mk hE4
            have hadd : (mkS (line ++ [32]) ++ mkS x) = mkS (line ++ 32 :: x) := by rw [mkS_append]; simp
            have Hadd := Lib.hid hadd
            have hsz4 : (mkS line ++ (⟨#[32]⟩ : ByteArray)).size ≤ 5000001 := by rw [Hl2.out, mkS_size]; simp; omega
            clear hE4 HE3 hadd
            go_wp2
            go_roundw
            case rel => exact ⟨j + 1, out, line ++ 32 :: x, false, by omega, by go_num, by rw [Hl2.out, Hadd.out], rfl, ⟨HE4.out⟩, ⟨by simp; omega⟩, HBl, HW, HR⟩
            case measure => simp [intOf]; omega
          · by_cases hlong : 78 < line.length + 1 + x.length
            · have hE4 := HE3.out
              rw [if_pos ⟨rfl, hlong⟩] at hE4
              have HE4 := Aside0.mk hE4
              have hadd : (mkS [32] ++ mkS x) = mkS (32 :: x) := by rw [mkS_append]; simp
              have Hadd := Lib.hid hadd
              have hcells : Lib.byteCells out ++ Lib.strCells (mkS (line ++ [10])) = Lib.byteCells (out ++ (line ++ [10])) := by rw [str_mk, mkS_toList, ← Lib.byteCells_append]
              have Hcells := Lib.hid hcells
              have hsz4 : ((⟨#[]⟩ : ByteArray) ++ (⟨#[32]⟩ : ByteArray)).size ≤ 1 := by rw [Hl3.out, mkS_size]; simp
              clear hE4 HE3 hadd hcells
              go_wp2_with fail
              rw [Hl1.out]
              refine (writeString2 w.heap.size b _ (mkS (line ++ [10])) _ HBl.out (by rw [Lib.byteCells_length, mkS_size]; simp; omega) HW.out.size).mono ?_
              rintro e w3 ⟨rfl, hb3, hw3, hs3⟩
              rw [Hcells.out] at hb3
              have HBl3 := Aside0.mk (Or.inr hb3 : Lib.IsBuilder 66 5 w.heap.size b (Lib.byteCells (out ++ (line ++ [10]))) w3)
              have HW3 := Aside0.mk (HW.out.trans hw3)
              have HR3 := Aside0.mk (R_sib HR.out hs3 (by decide))
              clear hb3 hw3 hs3
              go_wp2
              go_roundw
              case rel => exact ⟨j + 1, out ++ (line ++ [10]), 32 :: x, false, by omega, by go_num, by rw [Hl3.out, Hadd.out], rfl, ⟨HE4.out⟩, ⟨by simp; omega⟩, HBl3, HW3, HR3⟩
              case measure => simp [intOf]; omega
            · have hE4 := HE3.out
              rw [if_neg (fun h => hlong h.2)] at hE4
              have HE4 := Aside0.mk hE4
              have hadd : (mkS (line ++ [32]) ++ mkS x) = mkS (line ++ 32 :: x) := by rw [mkS_append]; simp
              have Hadd := Lib.hid hadd
              have hsz4 : (mkS line ++ (⟨#[32]⟩ : ByteArray)).size ≤ 5000001 := by rw [Hl2.out, mkS_size]; simp; omega
              clear hE4 HE3 hadd
              go_wp2
              go_roundw
              case rel => exact ⟨j + 1, out, line ++ 32 :: x, false, by omega, by go_num, by rw [Hl2.out, Hadd.out], rfl, ⟨HE4.out⟩, ⟨by simp; omega⟩, HBl, HW, HR⟩
              case measure => simp [intOf]; omega
        · have hk2 : ws.drop j = [] := List.drop_eq_nil_of_le (by omega)
          have hE := HE.out
          have hC2 := HC.out
          rw [hk2] at hE hC2
          have hE2 : mkS (out ++ (line ++ [10])) = r1 := hE
          have HE2 := Aside0.mk hE2
          have hl1 : (mkS line ++ (⟨#[10]⟩ : ByteArray)) = mkS (line ++ [10]) := by rw [mkS_one, mkS_append]
          have Hl1 := Lib.hid hl1
          have hcells : Lib.byteCells out ++ Lib.strCells (mkS (line ++ [10])) = Lib.byteCells (out ++ (line ++ [10])) := by rw [str_mk, mkS_toList, ← Lib.byteCells_append]
          have Hcells := Lib.hid hcells
          have hls := mkS_size line
          have hls1 : (mkS line).size ≤ 5000000 := by omega
          clear hk2 hE hE2 hl1 hcells HE
          go_wp2_with fail
          rw [Hl1.out]
          refine (writeString2 w.heap.size b _ (mkS (line ++ [10])) _ HBl.out (by rw [Lib.byteCells_length, mkS_size]; simp; omega) HW.out.size).mono ?_
          rintro e w3 ⟨rfl, hb3, hw3, hs3⟩
          rw [Hcells.out] at hb3
          have HBl3 := Aside0.mk (Or.inr hb3 : Lib.IsBuilder 66 5 w.heap.size b (Lib.byteCells (out ++ (line ++ [10]))) w3)
          have HW3 := Aside0.mk (HW.out.trans hw3)
          clear hb3 hw3 hs3
          go_wp2_with fail
          refine (Try.Builder_String_any w.heap.size b _ _ HBl3.out HW3.out.size).mono ?_
          rintro e w4 ⟨rfl, hw4⟩
          have HW4 := Aside0.mk (HW3.out.trans hw4)
          clear hw4
          go_wp2
          go_ret2
          exact ⟨by rw [← HE2.out]; rfl, HW4.out⟩
    · cases h1
  · rw [if_neg hz] at h1
    injection h1 with h1
    injection h1 with h1 h2
    subst h1 h2
    have hzb : (e0 == 0) = false := beq_eq_false_iff_ne.2 hz
    have hzb2 : (e0 != 0) = true := bne_iff_ne.2 hz
    have Hz := Lib.hid hz
    clear hz
    go_enter Try.func15, Try.ntmps15
    go_wp2_with fail
    refine (PB.field_Field_Check.calls k _ _ _ _ He0.out).mono ?_
    rintro e w1 ⟨rfl, hb1⟩
    have hB1 := HW0.out.trans (hb1.mono (by simp))
    go_wp2
    go_ret2
    exact ⟨rfl, hB1⟩
end Go.Proofs.Ytfeciafdioepiaa

/- The contract of field.Print. -/
namespace Go.Proofs.Ytfeciafdioepiaa
open Go.RowKit Go.Proofs Go.Proofs.YtfeciafdioepiaaW.PrintWords Go.Proofs.Ytfeciafdioepiaa.PA

def GV.Print.go (k : Nat) : List S28 → List UInt8 → Option (ByteArray × Int)
  | [], out => if 65536 < out.length then some (⟨#[]⟩, 5) else some (mkS out, 0)
  | x :: xs, out => (GV.Fold.f k x.f0 x.f1).bind fun p => if p.2 = 0 then (if p.1.size ≤ 4000000 then GV.Print.go k xs (out ++ p.1.data.toList) else none) else some (⟨#[]⟩, p.2)
def GV.Print.f (k : Nat) (l : List S28) : Option (ByteArray × Int) := if 64 < l.length then some (⟨#[]⟩, 9) else GV.Print.go k l []
theorem GV.Print.mono_go (k : Nat) : ∀ l out, LeO (GV.Print.go k l out) (GV.Print.go (k + 1) l out) := by
  intro l
  induction l with
  | nil => intro out; exact LeO.refl _
  | cons x xs ih =>
    intro out
    unfold GV.Print.go
    refine LeO.bind (GV.Fold.mono _ _ _) (fun _ => ?_)
    refine LeO.ite (LeO.ite (ih _) (LeO.refl _)) (LeO.refl _)
theorem GV.Print.mono : ∀ l k, LeO (GV.Print.f k l) (GV.Print.f (k + 1) l) := by
  intro l k
  unfold GV.Print.f
  exact LeO.ite (LeO.refl _) (GV.Print.mono_go k l [])

set_option maxHeartbeats 2000000 in
set_option maxRecDepth 100000 in
theorem GV.Print.calls (k : Nat) (A0 : Option Addr) (c0 : Nat) (l0 : List S28) (r1 : ByteArray) (r2 : Int) (w : World) (hr0 : Kd.C k28 w A0 l0.length l0) (hc0 : l0.length ≤ c0) (h : GV.Print.f k l0 = some (r1, r2)) :
    Calls Try.prog 20 #[.slice A0 l0.length c0] w fun e w' => e = .returned (.tuple #[.string r1, .int .i64 r2]) ∧ Below w.heap.size w w' := by
  have HR := Aside0.mk hr0
  have HC0 := Aside0.mk hc0
  clear hr0 hc0
  unfold GV.Print.f at h
  generalize hn : l0.length = n at *
  have Hn := Lib.hid hn
  clear hn
  by_cases h64 : 64 < n
  · rw [if_pos h64] at h
    injection h with h
    injection h with h1 h2
    subst h1 h2
    go_enter Try.func20, Try.ntmps20
    go_wp2
    go_ret2
    exact ⟨rfl, Below.refl _ _⟩
  · rw [if_neg h64] at h
    have H0 := Aside0.mk h
    have HFB := Aside0.mk (fresh_builder (w := w.alloc (.cells #[.pointer none, .slice none 0 0] 66)) (B := w.heap.size) (b := w.heap.size) (Nat.le_refl _) (by simpa using heap_alloc_new w (.cells #[.pointer none, .slice none 0 0] 66)))
    have HB0 := Aside0.mk ((Below.refl w.heap.size w).alloc (Nat.le_refl _) (.cells #[.pointer none, .slice none 0 0] 66))
    clear h
    go_enter Try.func20, Try.ntmps20
    go_wp2
    go_loopw [14] (fun v14 wr => ∃ (j : Nat) (out : List UInt8), j ≤ n ∧ v14 = .int .i64 j ∧ Aside0 (GV.Print.go k (l0.drop j) out = some (r1, r2)) ∧ Aside0 (out.length ≤ j * 4000000) ∧ Aside0 (Lib.IsBuilder 66 5 w.heap.size w.heap.size (Lib.byteCells out) wr) ∧ Aside0 (Below w.heap.size w wr)) (fun v14 _ => n - (intOf v14).toNat)
    case atStart => exact ⟨0, [], Nat.zero_le _, rfl, H0, ⟨by simp⟩, HFB, HB0⟩
    case round =>
      obtain ⟨j, out, hj, rfl, HE, HS, HBl, HW⟩ := hrel
      by_cases hlt : j < n
      · obtain ⟨ad, hA, hx0, hx1⟩ := at_T28 HR.out (j : Int) (by omega) (by omega)
        rw [Int.toNat_natCast] at hx0 hx1
        have hget : rd_T28 l0 (j : Int) = l0[j]'(by have := Hn.out; omega) := by
          unfold rd_T28; rw [Int.toNat_natCast, List.getD_eq_getElem?_getD, List.getElem?_eq_getElem (by have := Hn.out; omega)]; rfl
        have hdk : l0.drop j = l0[j]'(by have := Hn.out; omega) :: l0.drop (j + 1) := List.drop_eq_getElem_cons (by have := Hn.out; omega)
        have hE := HE.out
        rw [hdk, ← hget] at hE
        generalize rd_T28 l0 (j : Int) = x at *
        have hy0 := (HW.out.cell (World.block_lt_of_cell? w _ hx0)).trans hx0
        have hy1 := (HW.out.cell (World.block_lt_of_cell? w _ hx1)).trans hx1
        unfold GV.Print.go at hE
        obtain ⟨⟨s1, e1⟩, hf, hE2⟩ := Option.bind_eq_some_iff.mp hE
        simp only at hE2
        have Hf := Lib.hid hf
        have HBX := Aside0.mk (show (wr.alloc (.cells #[.string x.f0, .string x.f1] 28)).heap[wr.heap.size]? = some (.cells #[.string x.f0, .string x.f1] 28 (0, 0)) by simpa using heap_alloc_new wr (.cells #[.string x.f0, .string x.f1] 28))
        have HWa := Aside0.mk (HW.out.alloc HW.out.size (.cells #[.string x.f0, .string x.f1] 28))
        subst hA
        clear hx0 hx1 hget hdk hE hf
        by_cases hz : e1 = 0
        · rw [if_pos hz] at hE2
          subst hz
          split at hE2
          · rename_i hss
            have HE2 := Aside0.mk hE2
            clear hE2
            go_wp2_with fail
            refine (GV.Fold.calls k x.f0 x.f1 s1 0 _ Hf.out).mono ?_
            rintro e w2 ⟨rfl, hb2⟩
            have HBl2 := Aside0.mk (IsBuilder_below (IsBuilder_below HBl.out ((Below.refl _ _).alloc (Nat.le_refl _) (.cells #[.string x.f0, .string x.f1] 28))) hb2)
            have HW2 := Aside0.mk (HWa.out.trans (hb2.mono HWa.out.size))
            have hcells : Lib.byteCells out ++ Lib.strCells s1 = Lib.byteCells (out ++ s1.data.toList) := by rw [str_mk, ← Lib.byteCells_append]
            have Hcells := Lib.hid hcells
            have hsl : s1.data.toList.length = s1.size := by simp
            have Hsl := Lib.hid hsl
            clear hb2 hcells hsl
            go_wp2_with fail
            refine (writeString2 w.heap.size w.heap.size _ s1 _ HBl2.out (by rw [Lib.byteCells_length]; have := HS.out; omega) HW2.out.size).mono ?_
            rintro e w3 ⟨rfl, hb3, hw3, _⟩
            rw [Hcells.out] at hb3
            have HBl3 := Aside0.mk (Or.inr hb3 : Lib.IsBuilder 66 5 w.heap.size w.heap.size (Lib.byteCells (out ++ s1.data.toList)) w3)
            have HW3 := Aside0.mk (HW2.out.trans hw3)
            clear hb3 hw3
            go_wp2
            go_roundw
            case rel => exact ⟨j + 1, out ++ s1.data.toList, by omega, by go_num, HE2, ⟨by rw [List.length_append, Hsl.out]; have := HS.out; omega⟩, HBl3, HW3⟩
            case measure => simp [intOf]; omega
          · cases hE2
        · rw [if_neg hz] at hE2
          injection hE2 with hE2
          injection hE2 with h1 h2
          subst h1 h2
          have hzb : (e1 == 0) = false := beq_eq_false_iff_ne.2 hz
          have hzb2 : (e1 != 0) = true := bne_iff_ne.2 hz
          have Hz := Lib.hid hz
          clear hz
          go_wp2_with fail
          refine (GV.Fold.calls k x.f0 x.f1 s1 e1 _ Hf.out).mono ?_
          rintro e w2 ⟨rfl, hb2⟩
          have HW2 := Aside0.mk (HWa.out.trans (hb2.mono HWa.out.size))
          clear hb2
          go_wp2
          go_ret2
          exact ⟨rfl, HW2.out⟩
      · have hk2 : l0.drop j = [] := List.drop_eq_nil_of_le (by have := Hn.out; omega)
        have hE := HE.out
        rw [hk2] at hE
        unfold GV.Print.go at hE
        have hbl := Lib.byteCells_length out
        by_cases hbig : 65536 < out.length
        · rw [if_pos hbig] at hE
          injection hE with hE
          injection hE with h1 h2
          subst h1 h2
          clear HE
          go_wp2_with fail
          refine (Try.Builder_Len w.heap.size w.heap.size _ _ HBl.out).mono ?_
          rintro e w3 ⟨rfl, rfl⟩
          rw [hbl]
          go_wp2
          go_ret2
          exact ⟨rfl, HW.out⟩
        · rw [if_neg hbig] at hE
          injection hE with hE
          injection hE with h1 h2
          subst h2
          have H1 := Lib.hid h1
          clear HE h1
          go_wp2_with fail
          refine (Try.Builder_Len w.heap.size w.heap.size _ _ HBl.out).mono ?_
          rintro e w3 ⟨rfl, rfl⟩
          rw [hbl]
          go_wp2_with fail
          refine (Try.Builder_String_any w.heap.size w.heap.size _ _ HBl.out HW.out.size).mono ?_
          rintro e w4 ⟨rfl, hw4⟩
          have HW4 := Aside0.mk (HW.out.trans hw4)
          clear hw4
          go_wp2
          go_ret2
          exact ⟨by rw [← H1.out]; rfl, HW4.out⟩

end Go.Proofs.Ytfeciafdioepiaa

/- The contract of field.Parse, in the printed form. -/
namespace Go.Proofs.Ytfeciafdioepiaa
open Go.RowKit Go.Proofs Go.Proofs.YtfeciafdioepiaaW.PrintWords Go.Proofs.Ytfeciafdioepiaa.PA

theorem gm_at {w w1 : World} (h : Gm w) (hb : Below w.heap.size w w1) : Gm w1 := h.below hb (by
  obtain ⟨m, hm⟩ := h
  exact Nat.lt_of_le_of_lt (Nat.zero_le _) (World.block_lt_of_cell? w _ hm))
def GV.Parse.f (s : ByteArray) : Option (List S28 × Int × Int) := if s.size ≤ 140737488351232 then some ((parseP s.data.toList).1.map toS, (parseP s.data.toList).2.1, (parseP s.data.toList).2.2) else none
theorem GV.Parse.calls (a0 : ByteArray) (r1 : List S28) (r2 r3 : Int) (w : World) (hgm : Gm w) (h : GV.Parse.f a0 = some (r1, r2, r3)) :
    Calls Try.prog 23 #[.string a0] w fun e w' => ∃ v0_ : Value, e = .returned (.tuple #[v0_, .int .i64 r2, .int .i64 r3]) ∧ Kd.R k28 28 w' w.heap.size (fun _ => True) v0_ r1 ∧ Below w.heap.size w w' := by
  unfold GV.Parse.f at h
  split at h
  · injection h with h
    injection h with h1 h
    injection h with h2 h3
    subst h1 h2 h3
    exact parse_any a0 w hgm (by assumption)
  · cases h
end Go.Proofs.Ytfeciafdioepiaa

/- The contract of known. -/
namespace Go.Proofs.Ytfeciafdioepiaa
open Go.RowKit Go.Proofs Go.Proofs.YtfeciafdioepiaaW.PrintWords Go.Proofs.Ytfeciafdioepiaa.PA

theorem known1 : parseP [83, 117, 98, 106, 101, 99, 116, 58, 32, 97, 10, 9, 32, 98, 10, 88, 58, 10] = ([⟨[83, 117, 98, 106, 101, 99, 116], [97, 32, 98]⟩, ⟨[88], []⟩], 0, 0) := by decide +kernel
theorem known2 : parseP [32, 97, 10] = ([], 0, 3) := by decide +kernel
theorem known3 : parseP [65, 58, 32, 98, 0, 10] = ([], 4, 6) := by decide +kernel
theorem known4 : GV.Print.f 30 [⟨mkS [83, 117, 98, 106, 101, 99, 116], mkS [97, 32, 98]⟩, ⟨mkS [88], mkS []⟩] = some (mkS [83, 117, 98, 106, 101, 99, 116, 58, 32, 97, 32, 98, 10, 88, 58, 10], 0) := by decide +kernel

def fs1 : List S28 := [⟨mkS [83, 117, 98, 106, 101, 99, 116], mkS [97, 32, 98]⟩, ⟨mkS [88], mkS []⟩]
set_option maxHeartbeats 2000000 in
set_option maxRecDepth 100000 in
theorem known_any (w : World) (hgm : Gm w) : Calls Try.prog 11 #[] w fun e w' => e = .returned (.bool true) ∧ Below w.heap.size w w' := by
  have hu28 := Try.underlying28
  have HGM := Aside0.mk hgm
  clear hgm
  go_enter Try.func11, Try.ntmps11
  go_wp2_with fail
  refine (parse_any _ _ HGM.out (by decide)).mono ?_
  rintro e w1 ⟨v1, rfl, hR1, hb1⟩
  have e1 : (⟨#[83, 117, 98, 106, 101, 99, 116, 58, 32, 97, 10, 9, 32, 98, 10, 88, 58, 10]⟩ : ByteArray).data.toList = [83, 117, 98, 106, 101, 99, 116, 58, 32, 97, 10, 9, 32, 98, 10, 88, 58, 10] := rfl
  rw [e1, known1] at hR1 ⊢
  have hR1' : Kd.R k28 28 w1 w.heap.size (fun _ => True) v1 fs1 := hR1
  obtain ⟨g, c1, rfl⟩ : ∃ g c, v1 = .slice (some ⟨g, 0, none⟩) fs1.length c := by
    obtain ⟨inner, ho⟩ := Kd.R_own hR1'
    rcases ho.2 with ⟨_, h0⟩ | ⟨g, c, cur, hv, _⟩
    · exact absurd h0 (by decide)
    · exact ⟨g, c, hv⟩
  have HR1 := Aside0.mk hR1'
  have HB1 := Aside0.mk hb1
  have HGM1 := Aside0.mk (gm_at HGM.out hb1)
  clear e1 hR1 hR1' hb1
  go_wp2_with fail
  refine (GV.Print.calls 30 (some ⟨g, 0, none⟩) c1 fs1 _ _ _ (Kd.R_reads' HR1.out).2.2 (Kd.R_reads' HR1.out).2.1 known4).mono ?_
  rintro e w2 ⟨rfl, hb2⟩
  have HB2 := Aside0.mk (HB1.out.trans (hb2.mono HB1.out.size))
  have HR2 := Aside0.mk (Kd.R_below HR1.out hb2)
  have HGM2 := Aside0.mk (gm_at HGM1.out hb2)
  clear hb2
  go_wp2_with fail
  refine (parse_any _ _ HGM2.out (by decide)).mono ?_
  rintro e w3 ⟨v3, rfl, hR3, hb3⟩
  have e1 : (⟨#[32, 97, 10]⟩ : ByteArray).data.toList = [32, 97, 10] := rfl
  rw [e1, known2]
  have HB3 := Aside0.mk (HB2.out.trans (hb3.mono HB2.out.size))
  have HR3 := Aside0.mk (Kd.R_below HR2.out hb3)
  have HGM3 := Aside0.mk (gm_at HGM2.out hb3)
  clear e1 hR3 hb3
  go_wp2_with fail
  refine (parse_any _ _ HGM3.out (by decide)).mono ?_
  rintro e w4 ⟨v4, rfl, hR4, hb4⟩
  have e1 : (⟨#[65, 58, 32, 98, 0, 10]⟩ : ByteArray).data.toList = [65, 58, 32, 98, 0, 10] := rfl
  rw [e1, known3]
  have HB4 := Aside0.mk (HB3.out.trans (hb4.mono HB3.out.size))
  have hR5 := Kd.R_below HR3.out hb4
  obtain ⟨ad, e5, hx0, hx1⟩ := at_T28 (Kd.R_reads' hR5).2.2 0 (by decide) (by decide)
  obtain ⟨ad', e6, hy0, hy1⟩ := at_T28 (Kd.R_reads' hR5).2.2 1 (by decide) (by decide)
  injection e5 with e5
  injection e6 with e6
  subst e5 e6
  have hx0' : w4.cell? ⟨g, 0, none⟩ = some (.string ⟨#[83, 117, 98, 106, 101, 99, 116]⟩) := hx0
  have hx1' : w4.cell? ⟨g, 1, none⟩ = some (.string ⟨#[97, 32, 98]⟩) := hx1
  have hy0' : w4.cell? ⟨g, 2, none⟩ = some (.string ⟨#[88]⟩) := hy0
  have hy1' : w4.cell? ⟨g, 3, none⟩ = some (.string ⟨#[]⟩) := hy1
  clear e1 hR4 hb4 hR5 hx0 hx1 hy0 hy1
  rw [show fs1.length = 2 from rfl]
  have e7 : mkS [83, 117, 98, 106, 101, 99, 116, 58, 32, 97, 32, 98, 10, 88, 58, 10] = ⟨#[83, 117, 98, 106, 101, 99, 116, 58, 32, 97, 32, 98, 10, 88, 58, 10]⟩ := rfl
  rw [e7]
  clear e7
  go_wp2
  go_ret
  exact ⟨rfl, HB4.out⟩

def GV.known.f : Option Bool := some true
theorem GV.known.calls (r : Bool) (w : World) (hgm : Gm w) (h : GV.known.f = some r) : Calls Try.prog 11 #[] w fun e w' => e = .returned (.bool r) ∧ Below w.heap.size w w' := by
  injection h with h
  subst h
  exact known_any w hgm

end Go.Proofs.Ytfeciafdioepiaa
