/- Merged texts: H11, H12, H13, H14, H15; Contracts proved by hand over this translation, in the printed form: Cut, badByt; The contracts of the two Level over this translation. -/
import Derived.Test.YtfeciafdioepiaaGreatDoorHPsS7
import Derived.Lib.CountLaws
import Derived.Test.YtfeciafdioepiaaGreatDoorHPsS2
import Derived.Test.YtfeciafdioepiaaGreatDoorHPsS5
set_option linter.unusedVariables false
set_option linter.unusedSimpArgs false
/- WriteString beside other rows; the contract of Field.Fold. -/
namespace Go.Proofs.YtfeciafdioepiaaGreatDoor
open Go.RowKit Go.Proofs Go.Proofs.YtfeciafdioepiaaGreatDoorW.PrintWords Go.Proofs.YtfeciafdioepiaaGreatDoor.PA

/-- The rows that are of no builder stay. -/
def Sib (w w' : World) : Prop := ∀ (k : Nat) (cs : Array Value) (T : TypeId), w.heap[k]? = some (Obj.cells cs T (0, 0)) → T ≠ 85 → T ≠ 5 → w'.heap[k]? = w.heap[k]?
theorem Sib.refl (w : World) : Sib w w := fun _ _ _ _ _ _ => rfl
theorem Sib.trans {w w1 w2 : World} (h : Sib w w1) (k : Sib w1 w2) : Sib w w2 := fun i cs T hi h1 h2 => (k i cs T ((h i cs T hi h1 h2).trans hi) h1 h2).trans (h i cs T hi h1 h2)
theorem Sib.below {w w1 : World} (h : Below w.heap.size w w1) : Sib w w1 := fun i cs T hi _ _ => h.block i (by
  rcases Nat.lt_or_ge i w.heap.size with h' | h'
  · exact h'
  · simp [Array.getElem?_eq_none h'] at hi)
theorem Sib.set_ {w : World} {b : Nat} {cs : Array Value} (hb : w.heap[b]? = some (.cells cs 85 (0, 0))) (j : Nat) (v : Value) : Sib w (w.setCell ⟨b, j, none⟩ v) := fun k cs' T hk h1 _ => by
  refine Below.heap_setCell _ _ _ _ ?_
  rintro rfl
  rw [hk] at hb
  injection hb with hb
  injection hb with _ hb
  exact h1 hb
theorem R_sib {α : Type} {d : Kd α} {e : Nat} {w w1 : World} {base : Nat} {ok : Nat → Prop} {v : Value} {xs : List α} (h : d.R e w base ok v xs) (hs : Sib w w1) (ht : ∀ q, q ∈ e :: d.E → q ≠ 85 ∧ q ≠ 5) : d.R e w1 base ok v xs :=
  Kd.R_mono (Kd.R_step (Kd.R_bound h) (fun k hk _ => by
    obtain ⟨_, _, _, q, hq, cells, hc⟩ := hk
    exact hs k cells q hc (ht q hq).1 (ht q hq).2)) (fun _ hk => hk.1)

theorem copyCheck2 (B b : Nat) (bs : List Value) (w : World) (h : Lib.IsBuilder 85 5 B b bs w) :
    Calls Tryz.prog 74 #[.pointer (some ⟨b, 0, none⟩)] w fun e w' => e = .returned (.tuple #[]) ∧ (Lib.BuilderAt 85 5 B b (.pointer (some ⟨b, 0, none⟩)) bs w' ∧ Below B w w' ∧ Sib w w') := by
  rcases h with h | h
  · refine (copyCheck_fresh b w h.cell0 h.shape h.frozen0).mono ?_
    rintro e w' ⟨rfl, rfl⟩
    obtain ⟨hB, v, hb, _⟩ := id h
    exact ⟨rfl, h.used _, (Below.refl B w).setCell (p := ⟨b, 0, none⟩) h.1 _, Sib.set_ hb 0 _⟩
  · refine (copyCheck_used b w h.cell0).mono ?_
    rintro e w' ⟨rfl, rfl⟩
    exact ⟨rfl, h, Below.refl B _, Sib.refl _⟩

set_option maxHeartbeats 2000000 in
set_option maxRecDepth 100000 in
theorem writeString2 (B b : Nat) (bs : List Value) (s : ByteArray) (w : World) (h : Lib.IsBuilder 85 5 B b bs w) (hlen : bs.length + s.size ≤ 140737488355328) (hBw : B ≤ w.heap.size) :
    Calls Tryz.prog 47 #[.pointer (some ⟨b, 0, none⟩), .string s] w fun e w' => e = .returned (.tuple #[.int .i64 s.size, .nilIface]) ∧ (Lib.BuilderAt 85 5 B b (.pointer (some ⟨b, 0, none⟩)) (bs ++ Lib.strCells s) w' ∧ Below B w w' ∧ Sib w w') := by
  obtain ⟨i0, hi, hz0, hz1, hz2⟩ := info_parts infoByte
  go_enter Tryz.func47, Tryz.ntmps47
  go_wp2_with (go_at_call 74; refine (copyCheck2 B b bs _ h).mono ?_)
  rintro e w1 ⟨rfl, h1, hb1, hs1⟩
  obtain ⟨hB, v, hbk, hown, hne⟩ := h1
  have c0 : w1.cell? ⟨b, 0, none⟩ = some (.pointer (some ⟨b, 0, none⟩)) := by rw [Lib.cell_of_heap hbk]; rfl
  have c1 : w1.cell? ⟨b, 1, none⟩ = some v := by rw [Lib.cell_of_heap hbk]; rfl
  go_wp2_with (at_builtin; refine Lib.wpList_append_own_string _ rfl _ _ 44 9 rfl B 5 i0 Tryz.underlying44 Tryz.underlying9 hi hz0 hz1 hz2 _ _ _ rfl hown s rfl ?c3 ?c4 ?c5 ?_)
  case c3 => unfold maxLen; omega
  case c4 => omega
  case c5 => have := hb1.size; omega
  intro v' w2 hown' hgrow _
  have hlt : b < w1.heap.size := by
    rcases Nat.lt_or_ge b w1.heap.size with h' | h'
    · exact h'
    · simp [Array.getElem?_eq_none h'] at hbk
  have hb2 : w2.heap[b]? = some (.cells #[.pointer (some ⟨b, 0, none⟩), v] 85 (0, 0)) := by
    rw [hgrow.block b hlt (fun e => hne e.symm)]
    exact hbk
  have d0 : w2.cell? ⟨b, 0, none⟩ = some (.pointer (some ⟨b, 0, none⟩)) := by rw [Lib.cell_of_heap hb2]; rfl
  have d1 : w2.cell? ⟨b, 1, none⟩ = some v := by rw [Lib.cell_of_heap hb2]; rfl
  have f1 : w2.frozen? ⟨b, 1, none⟩ = false := Lib.frozen_of_heap hb2 1
  have hs2 : Sib w1 w2 := fun k cs T hk h1 h2 => by
    refine hgrow.block k ?_ ?_
    · rcases Nat.lt_or_ge k w1.heap.size with h' | h'
      · exact h'
      · simp [Array.getElem?_eq_none h'] at hk
    · exact fun e => Lib.ownBlock_ne hown hk h2 e.symm
  obtain ⟨ao, n', cap, rfl⟩ : ∃ ao n' cap, v' = .slice ao n' cap := by
    rcases hown'.2 with ⟨hv, _⟩ | ⟨g, cap, cur, hv, _⟩
    · exact ⟨_, _, _, hv⟩
    · exact ⟨_, _, _, hv⟩
  go_wp2
  go_ret2
  refine ⟨rfl, ?_, ?_, (hs1.trans hs2).trans (Sib.set_ hb2 1 _)⟩
  · exact Lib.BuilderAt.put (T := 85) (e := 5) hB hb2 (bs' := bs ++ Lib.strCells s) (by simpa [Lib.strCells_length] using hown') (by decide)
  · exact (hb1.grown hgrow (by have := hb1.size; omega) (fun k hk => (hown.lt k hk).1)).setCell (p := ⟨b, 1, none⟩) hB _

theorem fresh_builder {w : World} {B b : Nat} (hB : B ≤ b) (hb : w.heap[b]? = some (.cells #[.pointer none, .slice none 0 0] 85 (0, 0))) : Lib.IsBuilder 85 5 B b (Lib.byteCells []) w :=
  .inl ⟨hB, .slice none 0 0, hb, World.ownsRow_nil _ _ _ _, by simp [Value.ownBlock]⟩

theorem mkS_append (a b : List UInt8) : mkS a ++ mkS b = mkS (a ++ b) := by
  have : ∀ x y : ByteArray, x.data.toList = y.data.toList → x = y := fun x y h => by
    cases x; cases y; simp at h; subst h; rfl
  apply this
  simp [mkS, ByteArray.data_append]
theorem IsBuilder_below {w w1 : World} {B b : Nat} {bs : List Value} (h : Lib.IsBuilder 85 5 B b bs w) (hb : Below w.heap.size w w1) : Lib.IsBuilder 85 5 B b bs w1 := by
  have key : ∀ p, Lib.BuilderAt 85 5 B b p bs w → Lib.BuilderAt 85 5 B b p bs w1 := by
    intro p h
    have hlt := h.lt
    obtain ⟨hB, v, hv, hown, hne⟩ := h
    refine ⟨hB, v, (hb.block b hlt).trans hv, ?_, hne⟩
    refine ⟨hown.1, ?_⟩
    rcases hown.2 with hn | ⟨g, cap, cur, rfl, hbg, hgg, rest⟩
    · exact .inl hn
    · exact .inr ⟨g, cap, cur, rfl, hbg, (hb.block g (Array.getElem?_eq_some_iff.1 hgg).1).trans hgg, rest⟩
  exact h.elim (fun x => .inl (key _ x)) (fun x => .inr (key _ x))

/-- The lines of a folded field. -/
def foldW : List (List UInt8) → List UInt8 → List UInt8 → Bool → List UInt8
  | [], out, line, _ => out ++ (line ++ [10])
  | x :: xs, out, line, e => if e = false ∧ 78 < line.length + 1 + x.length then foldW xs (out ++ (line ++ [10])) (32 :: x) false else foldW xs out (line ++ 32 :: x) false
def foldL (name body : List UInt8) : List UInt8 := foldW (wordsL body) [] (name ++ [58]) true
def costW (ws : List (List UInt8)) : Nat := sumL ws + 2 * ws.length
theorem costW_cons (x : List UInt8) (xs : List (List UInt8)) : costW (x :: xs) = x.length + 2 + costW xs := by
  simp [costW, sumL]; omega
theorem mkS_one (c : UInt8) : (⟨#[c]⟩ : ByteArray) = mkS [c] := rfl
theorem mkS_nil : (⟨#[]⟩ : ByteArray) = mkS [] := rfl
end Go.Proofs.YtfeciafdioepiaaGreatDoor

/- The contract of Field.Fold. -/
namespace Go.Proofs.YtfeciafdioepiaaGreatDoor
open Go.RowKit Go.Proofs Go.Proofs.YtfeciafdioepiaaGreatDoorW.PrintWords Go.Proofs.YtfeciafdioepiaaGreatDoor.PA

def GV.Fold.f (k : Nat) (a b : ByteArray) : Option (ByteArray × Int) := (PB.field_Field_Check.f k a b).bind fun e => if e = 0 then (if a.size ≤ 1000000 ∧ b.size ≤ 1000000 then some (mkS (foldL a.data.toList b.data.toList), 0) else none) else some (⟨#[]⟩, e)
theorem str_mk (s : ByteArray) : Lib.strCells s = Lib.byteCells s.data.toList := rfl

set_option maxHeartbeats 2000000 in
set_option maxRecDepth 100000 in
theorem GV.Fold.calls (k : Nat) (a0_0 a0_1 : ByteArray) (r1 : ByteArray) (r2 : Int) (w : World) (h : GV.Fold.f k a0_0 a0_1 = some (r1, r2)) :
    Calls Tryz.prog 64 #[.agg #[.string a0_0, .string a0_1]] w fun e w' => e = .returned (.tuple #[.string r1, .int .i64 r2]) ∧ Below w.heap.size w w' := by
  have hBX : (w.alloc (.cells #[.string a0_0, .string a0_1] 76)).heap[w.heap.size]? = some (.cells #[.string a0_0, .string a0_1] 76 (0, 0)) := by simpa using heap_alloc_new w (.cells #[.string a0_0, .string a0_1] 76)
  have HBX := Aside0.mk hBX
  have HW0 := Aside0.mk ((Below.refl w.heap.size w).alloc (Nat.le_refl _) (.cells #[.string a0_0, .string a0_1] 76))
  clear hBX
  obtain ⟨e0, he0, h1⟩ := Option.bind_eq_some_iff.mp h
  have He0 := Lib.hid he0
  clear h he0
  by_cases hz : e0 = 0
  · rw [if_pos hz] at h1
    subst hz
    split at h1
    · rename_i hsz
      obtain ⟨hsa, hsb⟩ := hsz
      injection h1 with h1
      injection h1 with h1 h2
      have HR := Lib.hid h1
      subst h2
      clear h1
      go_enter Tryz.func64, Tryz.ntmps64
      go_wp2_with fail
      refine (PB.field_Field_Check.calls k _ _ _ _ He0.out).mono ?_
      rintro e w1 ⟨rfl, hb1⟩
      have hB1 := HW0.out.trans (hb1.mono (by simp))
      have HBX1 := Aside0.mk ((hb1.block w.heap.size (by simp)).trans HBX.out)
      have hc0 := (blk_cell HBX1.out 0).trans rfl
      have hc1 := (blk_cell HBX1.out 1).trans rfl
      have hlt1 : w.heap.size ≤ w1.heap.size := hB1.size
      have hblt : w.heap.size < w1.heap.size := by have := hb1.size; simp at this; omega
      have HB1 := Aside0.mk hB1
      have hn1 : w.heap.size ≠ w1.heap.size := by omega
      clear hb1 hB1
      have HFB := Aside0.mk (fresh_builder (w := w1.alloc (.cells #[.pointer none, .slice none 0 0] 85)) (B := w.heap.size) (b := w1.heap.size) hlt1 (by simpa using heap_alloc_new w1 (.cells #[.pointer none, .slice none 0 0] 85)))
      go_wp2_with fail
      refine (ascii_Words.calls a0_1 _ (by omega)).mono ?_
      rintro e w2 ⟨v2, rfl, hR2, hb2⟩
      obtain ⟨A2, c2, rfl⟩ := Kd.R_slice hR2
      have hwl := wordsL_len a0_1.data.toList
      have hws := wordsL_sum a0_1.data.toList
      have hsa' : a0_0.data.toList.length = a0_0.size := by simp
      have hsb' : a0_1.data.toList.length = a0_1.size := by simp
      have hR2' : Kd.R Kd.string 9 w2 _ (fun _ => True) (.slice A2 (wordsB a0_1).length c2) ((wordsL a0_1.data.toList).map mkS) := hR2
      have HR2 := Aside0.mk hR2'
      have hcn : (wordsB a0_1).length = (wordsL a0_1.data.toList).length := by unfold wordsB; rw [List.length_map]
      rw [hcn] at HR2 ⊢
      have HFB2 := Aside0.mk (IsBuilder_below HFB.out hb2)
      have HB2 := Aside0.mk ((HB1.out.alloc hlt1 (.cells #[.pointer none, .slice none 0 0] 85)).trans (hb2.mono (by simp; omega)))
      have hbs2 : w1.heap.size < w2.heap.size := by have := hb2.size; simp at this; omega
      have hres : mkS (foldW (wordsL a0_1.data.toList) [] (a0_0.data.toList ++ [58]) true) = r1 := HR.out
      have hline : a0_0 ++ ⟨#[58]⟩ = mkS (a0_0.data.toList ++ [58]) := by rw [← mkS_append, mkS_data]; rfl
      have hcost : costW (wordsL a0_1.data.toList) ≤ 3000000 := by unfold costW; omega
      have hnl : (a0_0.data.toList ++ [58]).length ≤ 1000001 := by simp; omega
      rw [hline]
      generalize hws : wordsL a0_1.data.toList = ws at *
      generalize hnm : a0_0.data.toList ++ [58] = nm at *
      have Hres := Lib.hid hres
      have Hcost := Lib.hid hcost
      have Hnl := Lib.hid hnl
      have hwl3 : ws.length ≤ 1000001 := by omega
      clear hR2 hb2 hR2' hwl hws hsa' hsb' hcn hres hline hcost hnm HR hnl
      generalize hBb : w1.heap.size = b at *
      clear HFB HBX1 hc0 hc1 HB1 hBb
      go_wp2
      go_loopw [6, 7, 22] (fun v6 v7 v22 wr => ∃ (j : Nat) (out line : List UInt8) (e : Bool), j ≤ ws.length ∧ v22 = .int .i64 j ∧ v6 = .string (mkS line) ∧ v7 = .bool e ∧ Aside0 (mkS (foldW (ws.drop j) out line e) = r1) ∧ Aside0 (out.length + line.length + costW (ws.drop j) ≤ 5000000) ∧ Aside0 (Lib.IsBuilder 85 5 w.heap.size b (Lib.byteCells out) wr) ∧
        Aside0 (Below w.heap.size w wr) ∧ Aside0 (Kd.R Kd.string 9 wr (w1.alloc (.cells #[.pointer none, .slice none 0 0] 85)).heap.size (fun _ => True) (.slice A2 ws.length c2) (ws.map mkS))) (fun v6 v7 v22 _ => ws.length - (intOf v22).toNat)
      case atStart => exact ⟨0, [], nm, true, Nat.zero_le _, rfl, rfl, rfl, ⟨Hres.out⟩, ⟨by have := Hcost.out; have := Hnl.out; simp; omega⟩, HFB2, HB2, HR2⟩
      case round =>
        obtain ⟨j, out, line, e, hj, rfl, rfl, rfl, HE, HC, HBl, HW, HR⟩ := hrel
        by_cases hlt : j < ws.length
        · have hdk : ws.drop j = ws[j] :: ws.drop (j + 1) := List.drop_eq_getElem_cons hlt
          obtain ⟨ad, hA, hx0⟩ := Kd.at_string (Kd.R_reads' HR.out).2.2 j (by omega) (by simp; omega)
          have hget : rdOf ByteArray.empty (ws.map mkS) (j : Int) = mkS ws[j] := by
            unfold rdOf; rw [Int.toNat_natCast, List.getD_eq_getElem?_getD, List.getElem?_map, List.getElem?_eq_getElem hlt]; rfl
          rw [hget] at hx0
          rw [Int.toNat_natCast] at hx0
          have hE2 := HE.out
          have hC2 := HC.out
          rw [hdk] at hE2 hC2
          rw [costW_cons] at hC2
          generalize hxq : ws[j] = x at *
          have hxs := mkS_size x
          have hls := mkS_size line
          have hl1 : (mkS line ++ (⟨#[10]⟩ : ByteArray)) = mkS (line ++ [10]) := by rw [mkS_one, mkS_append]
          have hl2 : (mkS line ++ (⟨#[32]⟩ : ByteArray)) = mkS (line ++ [32]) := by rw [mkS_one, mkS_append]
          have hl3 : ((⟨#[]⟩ : ByteArray) ++ (⟨#[32]⟩ : ByteArray)) = mkS [32] := by rw [mkS_one, mkS_nil, mkS_append]; rfl
          have Hl1 := Lib.hid hl1
          have Hl2 := Lib.hid hl2
          have Hl3 := Lib.hid hl3
          have Hxs := Lib.hid hxs
          have Hls := Lib.hid hls
          have hE3 : mkS (if e = false ∧ 78 < line.length + 1 + x.length then foldW (ws.drop (j + 1)) (out ++ (line ++ [10])) (32 :: x) false else foldW (ws.drop (j + 1)) out (line ++ 32 :: x) false) = r1 := hE2
          have HE3 := Lib.hid hE3
          subst hA
          clear hdk hget hE2 hE3 hxq hl1 hl2 hl3 HE HC
          have hxs1 : (mkS x).size ≤ 5000000 := by omega
          have hls1 : (mkS line).size ≤ 5000000 := by omega
          rcases Bool.eq_false_or_eq_true e with rfl | rfl
          · have hE4 := HE3.out
            rw [if_neg (by simp)] at hE4
            have HE4 := Aside0.mk hE4
            have hadd : (mkS (line ++ [32]) ++ mkS x) = mkS (line ++ 32 :: x) := by rw [mkS_append]; simp
            have Hadd := Lib.hid hadd
            have hsz4 : (mkS line ++ (⟨#[32]⟩ : ByteArray)).size ≤ 5000001 := by rw [Hl2.out, mkS_size]; simp; omega
            clear hE4 HE3 hadd
            go_wp2
            go_roundw
            case rel => exact ⟨j + 1, out, line ++ 32 :: x, false, by omega, by go_num, by rw [Hl2.out, Hadd.out], rfl, ⟨HE4.out⟩, ⟨by simp; omega⟩, HBl, HW, HR⟩
            case measure => simp [intOf]; omega
          · by_cases hlong : 78 < line.length + 1 + x.length
            · have hE4 := HE3.out
              rw [if_pos ⟨rfl, hlong⟩] at hE4
              have HE4 := Aside0.mk hE4
              have hadd : (mkS [32] ++ mkS x) = mkS (32 :: x) := by rw [mkS_append]; simp
              have Hadd := Lib.hid hadd
              have hcells : Lib.byteCells out ++ Lib.strCells (mkS (line ++ [10])) = Lib.byteCells (out ++ (line ++ [10])) := by rw [str_mk, mkS_toList, ← Lib.byteCells_append]
              have Hcells := Lib.hid hcells
              have hsz4 : ((⟨#[]⟩ : ByteArray) ++ (⟨#[32]⟩ : ByteArray)).size ≤ 1 := by rw [Hl3.out, mkS_size]; simp
              clear hE4 HE3 hadd hcells
              go_wp2_with fail
              rw [Hl1.out]
              refine (writeString2 w.heap.size b _ (mkS (line ++ [10])) _ HBl.out (by rw [Lib.byteCells_length, mkS_size]; simp; omega) HW.out.size).mono ?_
              rintro e w3 ⟨rfl, hb3, hw3, hs3⟩
              rw [Hcells.out] at hb3
              have HBl3 := Aside0.mk (Or.inr hb3 : Lib.IsBuilder 85 5 w.heap.size b (Lib.byteCells (out ++ (line ++ [10]))) w3)
              have HW3 := Aside0.mk (HW.out.trans hw3)
              have HR3 := Aside0.mk (R_sib HR.out hs3 (by decide))
              clear hb3 hw3 hs3
              go_wp2
              go_roundw
              case rel => exact ⟨j + 1, out ++ (line ++ [10]), 32 :: x, false, by omega, by go_num, by rw [Hl3.out, Hadd.out], rfl, ⟨HE4.out⟩, ⟨by simp; omega⟩, HBl3, HW3, HR3⟩
              case measure => simp [intOf]; omega
            · have hE4 := HE3.out
              rw [if_neg (fun h => hlong h.2)] at hE4
              have HE4 := Aside0.mk hE4
              have hadd : (mkS (line ++ [32]) ++ mkS x) = mkS (line ++ 32 :: x) := by rw [mkS_append]; simp
              have Hadd := Lib.hid hadd
              have hsz4 : (mkS line ++ (⟨#[32]⟩ : ByteArray)).size ≤ 5000001 := by rw [Hl2.out, mkS_size]; simp; omega
              clear hE4 HE3 hadd
              go_wp2
              go_roundw
              case rel => exact ⟨j + 1, out, line ++ 32 :: x, false, by omega, by go_num, by rw [Hl2.out, Hadd.out], rfl, ⟨HE4.out⟩, ⟨by simp; omega⟩, HBl, HW, HR⟩
              case measure => simp [intOf]; omega
        · have hk2 : ws.drop j = [] := List.drop_eq_nil_of_le (by omega)
          have hE := HE.out
          have hC2 := HC.out
          rw [hk2] at hE hC2
          have hE2 : mkS (out ++ (line ++ [10])) = r1 := hE
          have HE2 := Aside0.mk hE2
          have hl1 : (mkS line ++ (⟨#[10]⟩ : ByteArray)) = mkS (line ++ [10]) := by rw [mkS_one, mkS_append]
          have Hl1 := Lib.hid hl1
          have hcells : Lib.byteCells out ++ Lib.strCells (mkS (line ++ [10])) = Lib.byteCells (out ++ (line ++ [10])) := by rw [str_mk, mkS_toList, ← Lib.byteCells_append]
          have Hcells := Lib.hid hcells
          have hls := mkS_size line
          have hls1 : (mkS line).size ≤ 5000000 := by omega
          clear hk2 hE hE2 hl1 hcells HE
          go_wp2_with fail
          rw [Hl1.out]
          refine (writeString2 w.heap.size b _ (mkS (line ++ [10])) _ HBl.out (by rw [Lib.byteCells_length, mkS_size]; simp; omega) HW.out.size).mono ?_
          rintro e w3 ⟨rfl, hb3, hw3, hs3⟩
          rw [Hcells.out] at hb3
          have HBl3 := Aside0.mk (Or.inr hb3 : Lib.IsBuilder 85 5 w.heap.size b (Lib.byteCells (out ++ (line ++ [10]))) w3)
          have HW3 := Aside0.mk (HW.out.trans hw3)
          clear hb3 hw3 hs3
          go_wp2_with fail
          refine (Tryz.Builder_String_any w.heap.size b _ _ HBl3.out HW3.out.size).mono ?_
          rintro e w4 ⟨rfl, hw4⟩
          have HW4 := Aside0.mk (HW3.out.trans hw4)
          clear hw4
          go_wp2
          go_ret2
          exact ⟨by rw [← HE2.out]; rfl, HW4.out⟩
    · cases h1
  · rw [if_neg hz] at h1
    injection h1 with h1
    injection h1 with h1 h2
    subst h1 h2
    have hzb : (e0 == 0) = false := beq_eq_false_iff_ne.2 hz
    have hzb2 : (e0 != 0) = true := bne_iff_ne.2 hz
    have Hz := Lib.hid hz
    clear hz
    go_enter Tryz.func64, Tryz.ntmps64
    go_wp2_with fail
    refine (PB.field_Field_Check.calls k _ _ _ _ He0.out).mono ?_
    rintro e w1 ⟨rfl, hb1⟩
    have hB1 := HW0.out.trans (hb1.mono (by simp))
    go_wp2
    go_ret2
    exact ⟨rfl, hB1⟩
end Go.Proofs.YtfeciafdioepiaaGreatDoor

/- The contract of field.Print. -/
namespace Go.Proofs.YtfeciafdioepiaaGreatDoor
open Go.RowKit Go.Proofs Go.Proofs.YtfeciafdioepiaaGreatDoorW.PrintWords Go.Proofs.YtfeciafdioepiaaGreatDoor.PA

def GV.Print.go (k : Nat) : List S76 → List UInt8 → Option (ByteArray × Int)
  | [], out => if 65536 < out.length then some (⟨#[]⟩, 5) else some (mkS out, 0)
  | x :: xs, out => (GV.Fold.f k x.f0 x.f1).bind fun p => if p.2 = 0 then (if p.1.size ≤ 4000000 then GV.Print.go k xs (out ++ p.1.data.toList) else none) else some (⟨#[]⟩, p.2)
def GV.Print.f (k : Nat) (l : List S76) : Option (ByteArray × Int) := if 64 < l.length then some (⟨#[]⟩, 9) else GV.Print.go k l []
set_option maxHeartbeats 2000000 in
set_option maxRecDepth 100000 in
theorem GV.Print.calls (k : Nat) (A0 : Option Addr) (c0 : Nat) (l0 : List S76) (r1 : ByteArray) (r2 : Int) (w : World) (hr0 : Kd.C k76 w A0 l0.length l0) (hc0 : l0.length ≤ c0) (h : GV.Print.f k l0 = some (r1, r2)) :
    Calls Tryz.prog 40 #[.slice A0 l0.length c0] w fun e w' => e = .returned (.tuple #[.string r1, .int .i64 r2]) ∧ Below w.heap.size w w' := by
  have HR := Aside0.mk hr0
  have HC0 := Aside0.mk hc0
  clear hr0 hc0
  unfold GV.Print.f at h
  generalize hn : l0.length = n at *
  have Hn := Lib.hid hn
  clear hn
  by_cases h64 : 64 < n
  · rw [if_pos h64] at h
    injection h with h
    injection h with h1 h2
    subst h1 h2
    go_enter Tryz.func40, Tryz.ntmps40
    go_wp2
    go_ret2
    exact ⟨rfl, Below.refl _ _⟩
  · rw [if_neg h64] at h
    have H0 := Aside0.mk h
    have HFB := Aside0.mk (fresh_builder (w := w.alloc (.cells #[.pointer none, .slice none 0 0] 85)) (B := w.heap.size) (b := w.heap.size) (Nat.le_refl _) (by simpa using heap_alloc_new w (.cells #[.pointer none, .slice none 0 0] 85)))
    have HB0 := Aside0.mk ((Below.refl w.heap.size w).alloc (Nat.le_refl _) (.cells #[.pointer none, .slice none 0 0] 85))
    clear h
    go_enter Tryz.func40, Tryz.ntmps40
    go_wp2
    go_loopw [14] (fun v14 wr => ∃ (j : Nat) (out : List UInt8), j ≤ n ∧ v14 = .int .i64 j ∧ Aside0 (GV.Print.go k (l0.drop j) out = some (r1, r2)) ∧ Aside0 (out.length ≤ j * 4000000) ∧ Aside0 (Lib.IsBuilder 85 5 w.heap.size w.heap.size (Lib.byteCells out) wr) ∧ Aside0 (Below w.heap.size w wr)) (fun v14 _ => n - (intOf v14).toNat)
    case atStart => exact ⟨0, [], Nat.zero_le _, rfl, H0, ⟨by simp⟩, HFB, HB0⟩
    case round =>
      obtain ⟨j, out, hj, rfl, HE, HS, HBl, HW⟩ := hrel
      by_cases hlt : j < n
      · obtain ⟨ad, hA, hx0, hx1⟩ := at_T76 HR.out (j : Int) (by omega) (by omega)
        rw [Int.toNat_natCast] at hx0 hx1
        have hget : rd_T76 l0 (j : Int) = l0[j]'(by have := Hn.out; omega) := by
          unfold rd_T76; rw [Int.toNat_natCast, List.getD_eq_getElem?_getD, List.getElem?_eq_getElem (by have := Hn.out; omega)]; rfl
        have hdk : l0.drop j = l0[j]'(by have := Hn.out; omega) :: l0.drop (j + 1) := List.drop_eq_getElem_cons (by have := Hn.out; omega)
        have hE := HE.out
        rw [hdk, ← hget] at hE
        generalize rd_T76 l0 (j : Int) = x at *
        have hy0 := (HW.out.cell (World.block_lt_of_cell? w _ hx0)).trans hx0
        have hy1 := (HW.out.cell (World.block_lt_of_cell? w _ hx1)).trans hx1
        unfold GV.Print.go at hE
        obtain ⟨⟨s1, e1⟩, hf, hE2⟩ := Option.bind_eq_some_iff.mp hE
        simp only at hE2
        have Hf := Lib.hid hf
        have HBX := Aside0.mk (show (wr.alloc (.cells #[.string x.f0, .string x.f1] 76)).heap[wr.heap.size]? = some (.cells #[.string x.f0, .string x.f1] 76 (0, 0)) by simpa using heap_alloc_new wr (.cells #[.string x.f0, .string x.f1] 76))
        have HWa := Aside0.mk (HW.out.alloc HW.out.size (.cells #[.string x.f0, .string x.f1] 76))
        subst hA
        clear hx0 hx1 hget hdk hE hf
        by_cases hz : e1 = 0
        · rw [if_pos hz] at hE2
          subst hz
          split at hE2
          · rename_i hss
            have HE2 := Aside0.mk hE2
            clear hE2
            go_wp2_with fail
            refine (GV.Fold.calls k x.f0 x.f1 s1 0 _ Hf.out).mono ?_
            rintro e w2 ⟨rfl, hb2⟩
            have HBl2 := Aside0.mk (IsBuilder_below (IsBuilder_below HBl.out ((Below.refl _ _).alloc (Nat.le_refl _) (.cells #[.string x.f0, .string x.f1] 76))) hb2)
            have HW2 := Aside0.mk (HWa.out.trans (hb2.mono HWa.out.size))
            have hcells : Lib.byteCells out ++ Lib.strCells s1 = Lib.byteCells (out ++ s1.data.toList) := by rw [str_mk, ← Lib.byteCells_append]
            have Hcells := Lib.hid hcells
            have hsl : s1.data.toList.length = s1.size := by simp
            have Hsl := Lib.hid hsl
            clear hb2 hcells hsl
            go_wp2_with fail
            refine (writeString2 w.heap.size w.heap.size _ s1 _ HBl2.out (by rw [Lib.byteCells_length]; have := HS.out; omega) HW2.out.size).mono ?_
            rintro e w3 ⟨rfl, hb3, hw3, _⟩
            rw [Hcells.out] at hb3
            have HBl3 := Aside0.mk (Or.inr hb3 : Lib.IsBuilder 85 5 w.heap.size w.heap.size (Lib.byteCells (out ++ s1.data.toList)) w3)
            have HW3 := Aside0.mk (HW2.out.trans hw3)
            clear hb3 hw3
            go_wp2
            go_roundw
            case rel => exact ⟨j + 1, out ++ s1.data.toList, by omega, by go_num, HE2, ⟨by rw [List.length_append, Hsl.out]; have := HS.out; omega⟩, HBl3, HW3⟩
            case measure => simp [intOf]; omega
          · cases hE2
        · rw [if_neg hz] at hE2
          injection hE2 with hE2
          injection hE2 with h1 h2
          subst h1 h2
          have hzb : (e1 == 0) = false := beq_eq_false_iff_ne.2 hz
          have hzb2 : (e1 != 0) = true := bne_iff_ne.2 hz
          have Hz := Lib.hid hz
          clear hz
          go_wp2_with fail
          refine (GV.Fold.calls k x.f0 x.f1 s1 e1 _ Hf.out).mono ?_
          rintro e w2 ⟨rfl, hb2⟩
          have HW2 := Aside0.mk (HWa.out.trans (hb2.mono HWa.out.size))
          clear hb2
          go_wp2
          go_ret2
          exact ⟨rfl, HW2.out⟩
      · have hk2 : l0.drop j = [] := List.drop_eq_nil_of_le (by have := Hn.out; omega)
        have hE := HE.out
        rw [hk2] at hE
        unfold GV.Print.go at hE
        have hbl := Lib.byteCells_length out
        by_cases hbig : 65536 < out.length
        · rw [if_pos hbig] at hE
          injection hE with hE
          injection hE with h1 h2
          subst h1 h2
          clear HE
          go_wp2_with fail
          refine (Tryz.Builder_Len w.heap.size w.heap.size _ _ HBl.out).mono ?_
          rintro e w3 ⟨rfl, rfl⟩
          rw [hbl]
          go_wp2
          go_ret2
          exact ⟨rfl, HW.out⟩
        · rw [if_neg hbig] at hE
          injection hE with hE
          injection hE with h1 h2
          subst h2
          have H1 := Lib.hid h1
          clear HE h1
          go_wp2_with fail
          refine (Tryz.Builder_Len w.heap.size w.heap.size _ _ HBl.out).mono ?_
          rintro e w3 ⟨rfl, rfl⟩
          rw [hbl]
          go_wp2_with fail
          refine (Tryz.Builder_String_any w.heap.size w.heap.size _ _ HBl.out HW.out.size).mono ?_
          rintro e w4 ⟨rfl, hw4⟩
          have HW4 := Aside0.mk (HW.out.trans hw4)
          clear hw4
          go_wp2
          go_ret2
          exact ⟨by rw [← H1.out]; rfl, HW4.out⟩

end Go.Proofs.YtfeciafdioepiaaGreatDoor

/- The contract of field.Parse, in the printed form. -/
namespace Go.Proofs.YtfeciafdioepiaaGreatDoor
open Go.RowKit Go.Proofs Go.Proofs.YtfeciafdioepiaaGreatDoorW.PrintWords Go.Proofs.YtfeciafdioepiaaGreatDoor.PA

theorem gm_at {w w1 : World} (h : Gm w) (hb : Below w.heap.size w w1) : Gm w1 := h.below hb (by
  obtain ⟨m, hm⟩ := h
  exact Nat.lt_of_le_of_lt (Nat.zero_le _) (World.block_lt_of_cell? w _ hm))
def GV.Parse.f (s : ByteArray) : Option (List S76 × Int × Int) := if s.size ≤ 140737488351232 then some ((parseP s.data.toList).1.map toS, (parseP s.data.toList).2.1, (parseP s.data.toList).2.2) else none
end Go.Proofs.YtfeciafdioepiaaGreatDoor

/- The contract of known. -/
namespace Go.Proofs.YtfeciafdioepiaaGreatDoor
open Go.RowKit Go.Proofs Go.Proofs.YtfeciafdioepiaaGreatDoorW.PrintWords Go.Proofs.YtfeciafdioepiaaGreatDoor.PA

def GV.known.f : Option Bool := some true
end Go.Proofs.YtfeciafdioepiaaGreatDoor
set_option linter.unusedVariables false
set_option linter.unusedSimpArgs false
namespace Go.Proofs.YtfeciafdioepiaaGreatDoor.GV
open Go.RowKit Go.Proofs Go.Proofs.YtfeciafdioepiaaGreatDoorW.PrintWords Go.Proofs.YtfeciafdioepiaaGreatDoor.PA

def Cut.f (s sep : ByteArray) : Option (ByteArray × ByteArray × Bool) := if sep = ⟨#[10]⟩ ∧ s.size ≤ 140737488355328 then some (mkS (s.data.toList.take (lineN s.data.toList)), mkS (s.data.toList.drop (lineN s.data.toList + 1)), hasNl s.data.toList) else none
theorem Cut.calls (a0 : ByteArray) (a1 : ByteArray) (r1 : ByteArray) (r2 : ByteArray) (r3 : Bool) (w : World) (h : Cut.f a0 a1 = some (r1, r2, r3)) :
    Calls Tryz.prog 41 #[.string a0, .string a1] w fun e w' => e = .returned (.tuple #[.string r1, .string r2, .bool r3]) ∧ Drawn0 w w' := by
  unfold Cut.f at h
  split at h
  · rename_i hh
    obtain ⟨rfl, hs⟩ := hh
    injection h with h
    injection h with h1 h2
    injection h2 with h2 h3
    subst h1 h2 h3
    refine (cut_nl a0 w hs).mono ?_
    rintro e w' ⟨rfl, n, rfl⟩
    exact ⟨rfl, ⟨⟨n, rfl⟩⟩⟩
  · cases h
def badByte.f (s : ByteArray) : Option Int := if s.size ≤ 140737488355328 then some (badU s.data.toList) else none
theorem badByte.calls (a0 : ByteArray) (r : Int) (w : World) (h : badByte.f a0 = some r) :
    Calls Tryz.prog 42 #[.string a0] w fun e w' => e = .returned (.int .i64 r) ∧ Below w.heap.size w w' := by
  unfold badByte.f at h
  split at h
  · injection h with h; subst h; exact badByte_any a0 w (by assumption)
  · cases h
end Go.Proofs.YtfeciafdioepiaaGreatDoor.GV
set_option linter.unusedVariables false
set_option linter.unusedSimpArgs false
namespace Go.Proofs.YtfeciafdioepiaaGreatDoor
open Go.RowKit Go.Shelf Go.Proofs Go.Proofs.YtfeciafdioepiaaGreatDoorW.PrintWords Go.Proofs.YtfeciafdioepiaaGreatDoorW.PrintMore Go.Proofs.YtfeciafdioepiaaGreatDoor.PA

/-- How many quotation marks a line begins with, and what is behind them. -/
def isMark (c : UInt8) : Bool := c == 62
def markN (l : List UInt8) : Nat := spanL isMark l
def restL (l : List UInt8) : List UInt8 := if markN l = 0 then l.drop (markN l) else if (l.drop (markN l)).head? = some 32 then (l.drop (markN l)).drop 1 else l.drop (markN l)

/-! ### The program's Level -/
theorem trimLeft_mark (l : List UInt8) : Lib.trimLeftB l 62 = l.drop (markN l) := by
  unfold Lib.trimLeftB markN
  induction l with
  | nil => rfl
  | cons c l ih =>
    simp only [spanL]
    have e : isMark c = (c == 62) := rfl
    by_cases h : (c == 62) = true
    · rw [List.dropWhile_cons, if_pos h, e, if_pos h, ih]; rfl
    · rw [List.dropWhile_cons, if_neg h, e, if_neg h]; rfl
theorem trimPrefix_space (l : List UInt8) : Lib.trimPrefix l [32] = if l.head? = some 32 then l.drop 1 else l := by
  unfold Lib.trimPrefix Lib.hasPrefix
  cases l with
  | nil => rfl
  | cons c l =>
    by_cases h : c = 32
    · subst h; simp [List.isPrefixOf]
    · have h2 : (32 == c) = false := by rw [beq_eq_false_iff_ne]; exact fun e => h e.symm
      simp [List.isPrefixOf, h2, h]
set_option maxHeartbeats 1000000 in
set_option maxRecDepth 100000 in
theorem level_any (s : ByteArray) (w : World) (hs : s.size ≤ 140737488355328) : Calls Tryz.prog 24 #[.string s] w fun e w' => e = .returned (.tuple #[.int .i64 (markN s.data.toList), .string (mkS (restL s.data.toList))]) ∧ Drawn0 w w' := by
  have hlen : s.data.toList.length = s.size := by simp
  have hle : markN s.data.toList ≤ s.size := by rw [← hlen]; exact spanL_le _ _
  have htl := fun w => Tryz.strings_TrimLeft_one s 62 (by decide) w
  have e1 : (⟨(Lib.trimLeftB s.data.toList 62).toArray⟩ : ByteArray) = mkS (s.data.toList.drop (markN s.data.toList)) := by rw [trimLeft_mark]; rfl
  rw [e1] at htl
  have htp := fun w => Tryz.strings_TrimPrefix (mkS (s.data.toList.drop (markN s.data.toList))) ⟨#[32]⟩ w
  have e2 : (⟨(Lib.trimPrefix (mkS (s.data.toList.drop (markN s.data.toList))).data.toList (⟨#[32]⟩ : ByteArray).data.toList).toArray⟩ : ByteArray) = mkS (if (s.data.toList.drop (markN s.data.toList)).head? = some 32 then (s.data.toList.drop (markN s.data.toList)).drop 1 else s.data.toList.drop (markN s.data.toList)) := by
    rw [mkS_toList, show (⟨#[32]⟩ : ByteArray).data.toList = [32] from rfl, trimPrefix_space]; rfl
  rw [e2] at htp
  have hsz : (mkS (s.data.toList.drop (markN s.data.toList))).size = s.size - markN s.data.toList := by rw [mkS_size, List.length_drop, hlen]
  have hr : restL s.data.toList = if markN s.data.toList = 0 then s.data.toList.drop (markN s.data.toList) else (if (s.data.toList.drop (markN s.data.toList)).head? = some 32 then (s.data.toList.drop (markN s.data.toList)).drop 1 else s.data.toList.drop (markN s.data.toList)) := rfl
  rw [hr]
  generalize (if (s.data.toList.drop (markN s.data.toList)).head? = some 32 then (s.data.toList.drop (markN s.data.toList)).drop 1 else s.data.toList.drop (markN s.data.toList)) = r2 at *
  generalize hn : markN s.data.toList = n at *
  generalize s.data.toList.drop n = r1 at *
  have Htl := Lib.hid htl
  have Htp := Lib.hid htp
  have hsz2 : ((mkS r1).size : Int) = (s.size : Int) - n := by omega
  generalize hq : mkS r1 = q at *
  have Hq := Lib.hid hq
  clear hlen htl htp e1 e2 hr hn hsz hq
  have hw : wrap64 ((s.size : Int) - (q.size : Int)) = (n : Int) := by unfold wrap64; omega
  by_cases h0 : n = 0
  · subst h0
    have hz : (q.size : Int) = s.size := by omega
    have Hz := Lib.hid hz
    clear hz hsz2 hw
    have hqs : q.size = s.size := by have := Hz.out; omega
    go_enter Tryz.func24, Tryz.ntmps24
    go_wp2_with (go_at_call 52; refine (Htl.out _).mono ?_; rintro e w' ⟨rfl, rfl⟩)
    go_ret2
    have hres : mkS r1 = q := Hq.out
    exact ⟨by rw [hres]; rfl, ⟨⟨0, rfl⟩⟩⟩
  · have Hsz2 := Lib.hid hsz2
    clear hsz2
    have hn0 : decide ((n : Int) > 0) = true := decide_eq_true (by omega)
    go_enter Tryz.func24, Tryz.ntmps24
    go_wp2_with (first | (go_at_call 52; refine (Htl.out _).mono ?_; rintro e w' ⟨rfl, rfl⟩) | (go_at_call 53; refine (Htp.out _).mono ?_; rintro e w' ⟨rfl, rfl⟩))
    go_ret2
    exact ⟨rfl, ⟨⟨0, rfl⟩⟩⟩
end Go.Proofs.YtfeciafdioepiaaGreatDoor
namespace Go.Proofs.YtfeciafdioepiaaGreatDoor.GV
open Go.RowKit Go.Proofs Go.Proofs.YtfeciafdioepiaaGreatDoorW.PrintWords Go.Proofs.YtfeciafdioepiaaGreatDoor.PA
end Go.Proofs.YtfeciafdioepiaaGreatDoor.GV
namespace Go.Proofs.YtfeciafdioepiaaGreatDoor.PA
open Go.RowKit Go.Proofs Go.Proofs.YtfeciafdioepiaaGreatDoorW.PrintWords
end Go.Proofs.YtfeciafdioepiaaGreatDoor.PA
namespace Go.Proofs.YtfeciafdioepiaaGreatDoor.PA
open Go.RowKit Go.Proofs.YtfeciafdioepiaaGreatDoorW.PrintWords Go.Proofs.YtfeciafdioepiaaGreatDoorW.PrintLast Go.Proofs.YtfeciafdioepiaaGreatDoorW.PrintMore
attribute [local go_sem] max2_int min2_int max_two min_two max_three min_three max_four min_four   -- for this text's walks alone
set_option linter.unusedVariables false
set_option linter.unusedSimpArgs false

/-! ### bulletinlaw15_back: function 19 -/
def bulletinlaw15_back.l0 : Nat → Int → List (S78) → ByteArray → List (S76) → ByteArray → Option ((List (S76)) × ByteArray)
  | 0, _, _, _, _, _ => none
  | k + 1, x4, x196000, x196001, x198000, x198001 => if x4 < (x196000.length : Int) then (if 0 ≤ x4 then (if x198000.length < 4398046511104 then (bulletinlaw15_back.l0 k (wrap64 (x4 + 1)) x196000 x196001 (x198000 ++ [(⟨(rd_T78 x196000 x4).f0, (rd_T78 x196000 x4).f1⟩ : S76)]) x198001) else (none)) else (none)) else (some (x198000, x198001))
def bulletinlaw15_back.f (k : Nat) (l0_0 : List (S78)) (a0_1 : ByteArray) : Option ((List (S76)) × ByteArray) := bulletinlaw15_back.l0 k 0 l0_0 a0_1 ([] : List (S76)) a0_1
def bulletinlaw15_back.T5 : Bool × List (List Nat × List Nat) := (true, [([], []), ([0], [0]), ([], []), ([2], [2]), ([], []), ([3, 4], [3, 4]), ([5], [5]), ([6], [6]), ([], []), ([8], [8]), ([], []), ([9, 10], [9, 10]), ([11], [11]), ([12], [12]), ([7, 13], [7, 13]), ([14], [14]), ([1, 15], [1, 15]), ([0, 1, 2, 3, 4, 5, 6, 7, 8, 9, 10, 11, 12, 13, 14, 15, 16], []), ([17, 16, 16, 0, 1, 2, 3, 4, 5, 6, 7, 8, 9, 10, 11, 12, 13, 14, 15, 16], [16, 17])])
def bulletinlaw15_back.B5 : List Nat := [0, 1, 0, 4, 0, 28, 60, 124, 0, 256, 0, 1792, 3840, 7936, 16380, 32764, 65535, 131071, 262143]
theorem bulletinlaw15_back.tab5 : rtab .any (opsOf Tryz.f19 5) = bulletinlaw15_back.T5 := by kernel_rfl
theorem bulletinlaw15_back.bits5 : waitsOk bulletinlaw15_back.T5.2 bulletinlaw15_back.B5 = true := by kernel_rfl
set_option maxHeartbeats 8000000 in
set_option maxRecDepth 100000 in
theorem bulletinlaw15_back.calls (k : Nat) (A0_0 : Option Addr) (c0_0 : Nat) (l0_0 : List (S78)) (a0_1 : ByteArray) (r1 : List (S76)) (r2 : ByteArray) (w : World) (hr0_0 : Kd.C k78 w A0_0 l0_0.length l0_0) (hc0_0 : l0_0.length ≤ c0_0) (h : bulletinlaw15_back.f k l0_0 a0_1 = some (r1, r2)) :
    Calls Tryz.prog 19 #[.agg #[.slice A0_0 l0_0.length c0_0, .string a0_1]] w fun e w' => ∃ v0_ : Value, e = .returned (.agg #[v0_, .string r2]) ∧ Kd.R k76 76 w' w.heap.size (fun _ => True) v0_ r1 ∧ Below w.heap.size w w' := by
  have hu31 := Tryz.underlying31
  have hu25 := Tryz.underlying25
  have hu76 := Tryz.underlying76
  have HR0_0 := Aside0.mk hr0_0
  have HC0_0 := Aside0.mk hc0_0
  clear hr0_0 hc0_0
  have HB := Aside0.mk (Below.refl w.heap.size w)
  have H : (bulletinlaw15_back.l0 k 0 l0_0 a0_1 ([] : List (S76)) a0_1) = some (r1, r2) := h
  clear h
  have H' := Aside0.mk H
  clear H
  go_enter Tryz.func19, Tryz.ntmps19
  go_wp2_with (first | ((with_reducible refine gate_dst (N := 1) rfl ?_); refine box_event ?hg (N := 1) ?hd (cs := #[.slice A0_0 l0_0.length c0_0, .string a0_1]) (t := 31) ?hr ?_; (case hd => rfl); (case hg => rfl); (case hr => first | (go_simp; done) | (go_simp; rfl)); intro gb195 hg w2 hbox hb; have n0_ := Aside0.mk (below_step (by repeat (first | (with_reducible first | exact HB.out | apply below_alloc | apply pw_below_drewN | apply below_drew1) | exact HB.out)) hb); have n1_ := Aside0.mk (hbox); have n2_ := Aside0.mk ((by rw [hg]; exact (below_size (by repeat (first | (with_reducible first | exact HB.out | apply below_alloc | apply pw_below_drewN | apply below_drew1) | exact HB.out))) : w.heap.size ≤ gb195)); have n3_ := Aside0.mk ((by rw [hg]; exact (below_size (by repeat (first | (with_reducible first | exact HB.out | apply below_alloc | apply pw_below_drewN | apply below_drew1) | exact HB.out))) : w.heap.size ≤ gb195)); clear HB; have HB := n0_; have BK195 := n1_; have GW195 := n2_; have GE195 := n3_; clear n0_ n1_ n2_ n3_; clear hb hbox hg) | ((with_reducible refine gate_dst (N := 2) rfl ?_); refine box_event ?hg (N := 2) ?hd (cs := #[.slice none 0 0, .string (⟨#[]⟩ : ByteArray)]) (t := 25) ?hr ?_; (case hd => rfl); (case hg => rfl); (case hr => first | (go_simp; done) | (go_simp; rfl)); intro gb196 hg w3 hbox hb; have n0_ := Aside0.mk (blk_below (g := gb195) (o := .cells #[.slice A0_0 l0_0.length c0_0, .string a0_1] 31 (0, 0)) (by (with_reducible repeat (first | refine blk_drewN ?_ _ | refine blk_drew ?_ | refine blk_alloc ?_ _)); exact BK195.out) hb); have n1_ := Aside0.mk (below_step (by repeat (first | (with_reducible first | exact HB.out | apply below_alloc | apply pw_below_drewN | apply below_drew1 | refine below_set ?_ GE195.out) | exact HB.out)) hb); have n2_ := Aside0.mk (hbox); have n3_ := Aside0.mk ((by rw [hg]; exact (below_size (by repeat (first | (with_reducible first | exact HB.out | apply below_alloc | apply pw_below_drewN | apply below_drew1 | refine below_set ?_ GE195.out) | exact HB.out))) : w.heap.size ≤ gb196)); have n4_ := Aside0.mk ((by rw [hg]; exact (below_size (by repeat (first | (with_reducible first | exact HB.out | apply below_alloc | apply pw_below_drewN | apply below_drew1 | refine below_set ?_ GE195.out) | exact HB.out))) : w.heap.size ≤ gb196)); have n5_ := Aside0.mk ((by rw [hg]; exact Nat.ne_of_lt (blk_lt (g := gb195) (o := .cells #[.slice A0_0 l0_0.length c0_0, .string a0_1] 31 (0, 0)) (by (with_reducible repeat (first | refine blk_drewN ?_ _ | refine blk_drew ?_ | refine blk_alloc ?_ _)); exact BK195.out)) : gb195 ≠ gb196)); have n6_ := Aside0.mk ((by rw [hg]; exact Nat.ne_of_gt (blk_lt (g := gb195) (o := .cells #[.slice A0_0 l0_0.length c0_0, .string a0_1] 31 (0, 0)) (by (with_reducible repeat (first | refine blk_drewN ?_ _ | refine blk_drew ?_ | refine blk_alloc ?_ _)); exact BK195.out)) : gb196 ≠ gb195)); clear BK195; clear HB; have BK195 := n0_; have HB := n1_; have BK196 := n2_; have GW196 := n3_; have GE196 := n4_; have NB195_196 := n5_; have NB196_195 := n6_; clear n0_ n1_ n2_ n3_ n4_ n5_ n6_; clear hb hbox hg; have hnb4 := NB195_196.out; have hnc4 := NB196_195.out; have hcz5_0 : w3.cell? ⟨gb195, 0, none⟩ = some (.slice A0_0 l0_0.length c0_0) := (blk_cell BK195.out 0).trans rfl; have hcz5_1 : w3.cell? ⟨gb195, 1, none⟩ = some (.string a0_1) := (blk_cell BK195.out 1).trans rfl; have hfz5_0 := blk_frozen BK195.out 0; have hfz5_1 := blk_frozen BK195.out 1) | ((with_reducible refine gate_dst (N := 3) rfl ?_); refine box_event ?hg (N := 3) ?hd (cs := #[.slice none 0 0, .string (⟨#[]⟩ : ByteArray)]) (t := 25) ?hr ?_; (case hd => rfl); (case hg => rfl); (case hr => first | (go_simp; done) | (go_simp; rfl)); intro gb197 hg w6 hbox hb; have n0_ := Aside0.mk (blk_below (g := gb195) (o := .cells #[.slice A0_0 l0_0.length c0_0, .string a0_1] 31 (0, 0)) (by (with_reducible repeat (first | refine blk_drewN ?_ _ | refine blk_drew ?_ | refine blk_alloc ?_ _)); exact BK195.out) hb); have n1_ := Aside0.mk (blk_below (g := gb196) (o := .cells #[.slice none 0 0, .string (⟨#[]⟩ : ByteArray)] 25 (0, 0)) (by (with_reducible repeat (first | refine blk_drewN ?_ _ | refine blk_drew ?_ | refine blk_alloc ?_ _)); exact BK196.out) hb); have n2_ := Aside0.mk (below_step (by repeat (first | (with_reducible first | exact HB.out | apply below_alloc | apply pw_below_drewN | apply below_drew1 | refine below_set ?_ GE195.out | refine below_set ?_ GE196.out) | exact HB.out)) hb); have n3_ := Aside0.mk (hbox); have n4_ := Aside0.mk ((by rw [hg]; exact (below_size (by repeat (first | (with_reducible first | exact HB.out | apply below_alloc | apply pw_below_drewN | apply below_drew1 | refine below_set ?_ GE195.out | refine below_set ?_ GE196.out) | exact HB.out))) : w.heap.size ≤ gb197)); have n5_ := Aside0.mk ((by rw [hg]; exact (below_size (by repeat (first | (with_reducible first | exact HB.out | apply below_alloc | apply pw_below_drewN | apply below_drew1 | refine below_set ?_ GE195.out | refine below_set ?_ GE196.out) | exact HB.out))) : w.heap.size ≤ gb197)); have n6_ := Aside0.mk ((by rw [hg]; exact Nat.ne_of_lt (blk_lt (g := gb195) (o := .cells #[.slice A0_0 l0_0.length c0_0, .string a0_1] 31 (0, 0)) (by (with_reducible repeat (first | refine blk_drewN ?_ _ | refine blk_drew ?_ | refine blk_alloc ?_ _)); exact BK195.out)) : gb195 ≠ gb197)); have n7_ := Aside0.mk ((by rw [hg]; exact Nat.ne_of_gt (blk_lt (g := gb195) (o := .cells #[.slice A0_0 l0_0.length c0_0, .string a0_1] 31 (0, 0)) (by (with_reducible repeat (first | refine blk_drewN ?_ _ | refine blk_drew ?_ | refine blk_alloc ?_ _)); exact BK195.out)) : gb197 ≠ gb195)); have n8_ := Aside0.mk ((by rw [hg]; exact Nat.ne_of_lt (blk_lt (g := gb196) (o := .cells #[.slice none 0 0, .string (⟨#[]⟩ : ByteArray)] 25 (0, 0)) (by (with_reducible repeat (first | refine blk_drewN ?_ _ | refine blk_drew ?_ | refine blk_alloc ?_ _)); exact BK196.out)) : gb196 ≠ gb197)); have n9_ := Aside0.mk ((by rw [hg]; exact Nat.ne_of_gt (blk_lt (g := gb196) (o := .cells #[.slice none 0 0, .string (⟨#[]⟩ : ByteArray)] 25 (0, 0)) (by (with_reducible repeat (first | refine blk_drewN ?_ _ | refine blk_drew ?_ | refine blk_alloc ?_ _)); exact BK196.out)) : gb197 ≠ gb196)); clear BK195; clear BK196; clear HB; have BK195 := n0_; have BK196 := n1_; have HB := n2_; have BK197 := n3_; have GW197 := n4_; have GE197 := n5_; have NB195_197 := n6_; have NB197_195 := n7_; have NB196_197 := n8_; have NB197_196 := n9_; clear n0_ n1_ n2_ n3_ n4_ n5_ n6_ n7_ n8_ n9_; clear hb hbox hg; have hnb7 := NB197_195.out; have hnc7 := NB195_197.out; have hnb8 := NB197_196.out; have hnc8 := NB196_197.out; have hcz9_0 : w6.cell? ⟨gb197, 0, none⟩ = some (.slice none 0 0) := (blk_cell BK197.out 0).trans rfl; have hcz9_1 : w6.cell? ⟨gb197, 1, none⟩ = some (.string (⟨#[]⟩ : ByteArray)) := (blk_cell BK197.out 1).trans rfl; have hfz9_0 := blk_frozen BK197.out 0; have hfz9_1 := blk_frozen BK197.out 1))
  go_loopg [4] k (fun kq v4 w' => ∃ (x4_1 : Int) (x198000_1 : List (S76)) (u198000 : Value), v4 = .int .i64 x4_1 ∧ Aside0 (bulletinlaw15_back.l0 kq x4_1 l0_0 a0_1 x198000_1 a0_1 = some (r1, r2)) ∧ Aside0 (kq ≤ k) ∧ Aside0 (Kd.R k76 76 w' w.heap.size (fun _ => True) u198000 x198000_1) ∧ Aside0 (w'.heap[gb195]? = some (.cells #[(.slice A0_0 l0_0.length c0_0), .string a0_1] 31 (0, 0))) ∧ Aside0 (w'.heap[gb196]? = some (.cells #[(.slice none 0 0), .string (⟨#[]⟩ : ByteArray)] 25 (0, 0))) ∧ Aside0 (w'.heap[gb197]? = some (.cells #[u198000, .string a0_1] 25 (0, 0))) ∧ Aside0 (Below w.heap.size w w'))
  case atStart => exact ⟨(0), (([] : List (S76))), (.slice none 0 0), (by first | rfl | (simp; done) | (simp [*]; done)), H', ⟨Nat.le_refl _⟩, ⟨by first | exact Kd.R_nil _ _ _ _ _ | exact Kd.N_nil _ _ _ _ _ | exact Kd.V_nil _ _ _ _ _ | exact Kd.Q_nil _ _ _ _ _ | exact Kd.S_nil _ _ _ _ _⟩, ⟨by (with_reducible repeat (first | refine blk_drewN ?_ _ | refine blk_drew ?_ | refine blk_alloc ?_ _)); refine blk_far ?_ NB195_197.out _; (with_reducible repeat (first | refine blk_drewN ?_ _ | refine blk_drew ?_ | refine blk_alloc ?_ _)); refine blk_far ?_ NB195_197.out _; (with_reducible repeat (first | refine blk_drewN ?_ _ | refine blk_drew ?_ | refine blk_alloc ?_ _)); exact BK195.out⟩, ⟨by (with_reducible repeat (first | refine blk_drewN ?_ _ | refine blk_drew ?_ | refine blk_alloc ?_ _)); refine blk_far ?_ NB196_197.out _; (with_reducible repeat (first | refine blk_drewN ?_ _ | refine blk_drew ?_ | refine blk_alloc ?_ _)); refine blk_far ?_ NB196_197.out _; (with_reducible repeat (first | refine blk_drewN ?_ _ | refine blk_drew ?_ | refine blk_alloc ?_ _)); exact BK196.out⟩, ⟨by (with_reducible repeat (first | refine blk_drewN ?_ _ | refine blk_drew ?_ | refine blk_alloc ?_ _)); refine blk_put (cs := #[.slice none 0 0, .string (⟨#[]⟩ : ByteArray)]) ?_ 1 _ rfl; (with_reducible repeat (first | refine blk_drewN ?_ _ | refine blk_drew ?_ | refine blk_alloc ?_ _)); refine blk_put (cs := #[.slice none 0 0, .string (⟨#[]⟩ : ByteArray)]) ?_ 0 _ rfl; (with_reducible repeat (first | refine blk_drewN ?_ _ | refine blk_drew ?_ | refine blk_alloc ?_ _)); exact BK197.out⟩, ⟨by repeat (first | (with_reducible first | exact HB.out | apply below_alloc | apply pw_below_drewN | apply below_drew1 | refine below_set ?_ GE195.out | refine below_set ?_ GE196.out | refine below_set ?_ GE197.out) | exact HB.out)⟩⟩
  case round =>
    clear H'
    try clear c1
    try clear p2
    try clear c4
    try clear c7
    try clear c8
    try clear hcz5_0
    try clear hcz5_1
    try clear hcz9_0
    try clear hcz9_1
    try clear hfz5_0
    try clear hfz5_1
    try clear hfz9_0
    try clear hfz9_1
    obtain ⟨x4_1, x198000_1, u198000, rfl, HA, HK1, HO_198000, BK195, BK196, BK197, HB⟩ := hrel
    cases gk with
    | zero => exact absurd HA.out (by simp [bulletinlaw15_back.l0])
    | succ k1 =>
      have H := HA.out
      clear HA
      simp only [bulletinlaw15_back.l0] at H
      by_cases c10 : x4_1 < (l0_0.length : Int)
      · rw [if_pos c10] at H
        have c10b0 : decide (x4_1 < (l0_0.length : Int)) = true := decide_eq_true c10
        clear c10
        by_cases c11 : 0 ≤ x4_1
        · rw [if_pos c11] at H
          have c11b0 : decide (0 ≤ x4_1) = true := decide_eq_true c11
          clear c11
          by_cases c12 : x198000_1.length < 4398046511104
          · rw [if_pos c12] at H
            have LMc12 := Aside0.mk c12
            clear c12
            obtain ⟨y200, hy200⟩ : ∃ y_ : List (S76), y_ = (x198000_1 ++ [(⟨(rd_T78 l0_0 x4_1).f0, (rd_T78 l0_0 x4_1).f1⟩ : S76)]) := ⟨_, rfl⟩
            replace H : (bulletinlaw15_back.l0 k1 (wrap64 (x4_1 + 1)) l0_0 a0_1 y200 a0_1) = some (r1, r2) := by first | (rw [hy200]; with_reducible exact H) | (have H2_ := (Option.bind_some _ _).symm.trans H; rw [hy200]; with_reducible exact H2_) | (have H2_ := (Option.bind_some _ _).symm.trans H; with_reducible exact H2_) | with_reducible exact H | (rw [hy200]; exact H) | exact H
            have Ny200 := Aside0.mk hy200
            clear hy200
            have H' := Aside0.mk H
            clear H
            have hnb13 := NB195_196.out
            have hnc13 := NB196_195.out
            have hnb14 := NB195_197.out
            have hnc14 := NB197_195.out
            have hcz15_0 : wr.cell? ⟨gb195, 0, none⟩ = some (.slice A0_0 l0_0.length c0_0) := (blk_cell BK195.out 0).trans rfl
            have hcz15_1 : wr.cell? ⟨gb195, 1, none⟩ = some (.string a0_1) := (blk_cell BK195.out 1).trans rfl
            have hfz15_0 := blk_frozen BK195.out 0
            have hfz15_1 := blk_frozen BK195.out 1
            try go_wp2
            have n0_ := Aside0.mk (Kd.R_drew HO_198000.out)
            have n1_ := Aside0.mk (blk_drew BK195.out)
            have n2_ := Aside0.mk (blk_drew BK196.out)
            have n3_ := Aside0.mk (blk_drew BK197.out)
            have n4_ := Aside0.mk (below_drew1 HB.out)
            clear HO_198000
            clear BK195
            clear BK196
            clear BK197
            clear HB
            have HO_198000 := n0_
            have BK195 := n1_
            have BK196 := n2_
            have BK197 := n3_
            have HB := n4_
            clear n0_ n1_ n2_ n3_ n4_
            have p198 : 0 ≤ (x4_1 : Int) := of_decide_eq_true (by first | (with_reducible assumption) | assumption)
            have q198 : x4_1 < (l0_0.length : Int) := of_decide_eq_true (by first | (with_reducible assumption) | assumption)
            obtain ⟨ad198, e198, hx198_0, hx198_1⟩ := at_T78 HR0_0.out x4_1 p198 q198
            have hw198_1 := hx198_1
            have hw198_0 := hx198_0
            cases e198
            replace hx198_0 := (HB.out.cell (World.block_lt_of_cell? w _ hx198_0)).trans hx198_0
            replace hx198_1 := (HB.out.cell (World.block_lt_of_cell? w _ hx198_1)).trans hx198_1
            replace p198 := eq_true p198
            replace q198 := eq_true q198
            have p199 : 0 ≤ (x4_1 : Int) := of_decide_eq_true (by first | (with_reducible assumption) | assumption)
            have q199 : x4_1 < (l0_0.length : Int) := of_decide_eq_true (by first | (with_reducible assumption) | assumption)
            obtain ⟨ad199, e199, hx199_0, hx199_1⟩ := at_T78 HR0_0.out x4_1 p199 q199
            have hw199_1 := hx199_1
            have hw199_0 := hx199_0
            obtain rfl : ad198 = ad199 := (by injection e199)
            replace hx199_0 := (HB.out.cell (World.block_lt_of_cell? w _ hx199_0)).trans hx199_0
            replace hx199_1 := (HB.out.cell (World.block_lt_of_cell? w _ hx199_1)).trans hx199_1
            replace p199 := eq_true p199
            replace q199 := eq_true q199
            refine start_ (n := 19) (S := fun w' => w'.cell? ⟨gb197, 0, none⟩ = some (u198000) ∧ w'.cell? ⟨gb197, 1, none⟩ = some (.string a0_1) ∧ w'.cell? ⟨gb195, 0, none⟩ = some (.slice (some ad198) l0_0.length c0_0) ∧ w'.cell? ⟨gb195, 1, none⟩ = some (.string a0_1) ∧ w'.cell? (ad198.add ((x4_1).toNat * 2)) = some (.string ((rd_T78 l0_0 x4_1).f0)) ∧ w'.cell? ⟨(ad198.add ((x4_1).toNat * 2)).block, (ad198.add ((x4_1).toNat * 2)).off + 1, none⟩ = some (.string ((rd_T78 l0_0 x4_1).f1)) ∧ w'.cell? (ad198.add ((x4_1).toNat * 2)) = some (.string ((rd_T78 l0_0 x4_1).f0)) ∧ w'.cell? ⟨(ad198.add ((x4_1).toNat * 2)).block, (ad198.add ((x4_1).toNat * 2)).off + 1, none⟩ = some (.string ((rd_T78 l0_0 x4_1).f1))) (ds := [18]) #[false, false, false, false, false, false, false, false, false, false, false, false, false, false, false, false, false, false, false] (by kernel_rfl) rfl rfl ⟨(blk_cell BK197.out 0).trans rfl, (blk_cell BK197.out 1).trans rfl, (blk_cell BK195.out 0).trans rfl, (blk_cell BK195.out 1).trans rfl, ((HB.out.cell (World.block_lt_of_cell? w _ hw198_0)).trans hw198_0), ((HB.out.cell (World.block_lt_of_cell? w _ hw198_1)).trans hw198_1), ((HB.out.cell (World.block_lt_of_cell? w _ hw199_0)).trans hw199_0), ((HB.out.cell (World.block_lt_of_cell? w _ hw199_1)).trans hw199_1)⟩ (fun hHeld => ?_); refine with_tabW bulletinlaw15_back.tab5 bulletinlaw15_back.bits5 (fun HT_ HW_ => ?_)
            generalize wr.drew = w16 at HO_198000 BK195 BK196 BK197 HB hx198_0 hx198_1 hx199_0 hx199_1 hHeld ⊢
            refine pure_ (i := 0) (N := some 15) (v := ?_) (a' := ?_) #[true, false, false, false, false, false, false, false, false, false, false, false, false, false, false, false, false, false, false] rfl rfl (any_of HT_.out (by kernel_rfl)) (fun _ _ _ h => h) (Or.inl ⟨by rfl, ?_⟩) ?_ ?_
            rotate_left
            · intro w'
              go_simp
              with_reducible rfl
            rotate_left
            · simp only [Act.put, List.setIfInBounds_toArray, List.set_cons_zero, List.set_cons_succ, i64_w, i32_w]
              rfl
            refine pure_ (i := 2) (N := some 17) (v := ?_) (a' := ?_) #[true, false, true, false, false, false, false, false, false, false, false, false, false, false, false, false, false, false, false] rfl rfl (any_of HT_.out (by kernel_rfl)) (fun _ _ _ h => h) (Or.inl ⟨by rfl, ?_⟩) ?_ ?_
            rotate_left
            · intro w'
              go_simp
              with_reducible rfl
            rotate_left
            · simp only [Act.put, List.setIfInBounds_toArray, List.set_cons_zero, List.set_cons_succ, i64_w, i32_w]
              rfl
            refine pure_ (i := 4) (N := some 19) (v := ?_) (a' := ?_) #[true, false, true, false, true, false, false, false, false, false, false, false, false, false, false, false, false, false, false] rfl rfl (any_of HT_.out (by kernel_rfl)) (fun _ _ _ h => h) (Or.inl ⟨by rfl, ?_⟩) ?_ ?_
            rotate_left
            · intro w'
              go_simp
              with_reducible rfl
            rotate_left
            · simp only [Act.put, List.setIfInBounds_toArray, List.set_cons_zero, List.set_cons_succ, i64_w, i32_w]
              rfl
            refine pure_ (i := 8) (N := some 23) (v := ?_) (a' := ?_) #[true, false, true, false, true, false, false, false, true, false, false, false, false, false, false, false, false, false, false] rfl rfl (any_of HT_.out (by kernel_rfl)) (fun _ _ _ h => h) (Or.inl ⟨by rfl, ?_⟩) ?_ ?_
            rotate_left
            · intro w'
              go_simp
              with_reducible rfl
            rotate_left
            · simp only [Act.put, List.setIfInBounds_toArray, List.set_cons_zero, List.set_cons_succ, i64_w, i32_w]
              rfl
            refine pure_ (i := 10) (N := some 25) (v := ?_) (a' := ?_) #[true, false, true, false, true, false, false, false, true, false, true, false, false, false, false, false, false, false, false] rfl rfl (any_of HT_.out (by kernel_rfl)) (fun _ _ _ h => h) (Or.inl ⟨by rfl, ?_⟩) ?_ ?_
            rotate_left
            · intro w'
              go_simp
              with_reducible rfl
            rotate_left
            · simp only [Act.put, List.setIfInBounds_toArray, List.set_cons_zero, List.set_cons_succ, i64_w, i32_w]
              rfl
            refine take_ (i := 1) (N := some 16) (v := ?_) (a' := ?_) #[true, true, true, false, true, false, false, false, true, false, true, false, false, false, false, false, false, false, false] rfl rfl (take_ofW HT_.out HW_.out (by kernel_rfl)) (fun _ _ _ h => h) (Or.inl ⟨by rfl, ?_⟩) hHeld ?_ ?_
            rotate_left
            · rintro w' ⟨s0, s1, s2, s3, s4, s5, s6, s7⟩
              go_simp
              with_reducible rfl
            rotate_left
            · simp only [Act.put, List.setIfInBounds_toArray, List.set_cons_zero, List.set_cons_succ, i64_w, i32_w]
              rfl
            refine take_ (i := 3) (N := some 18) (v := ?_) (a' := ?_) #[true, true, true, true, true, false, false, false, true, false, true, false, false, false, false, false, false, false, false] rfl rfl (take_ofW HT_.out HW_.out (by kernel_rfl)) (fun _ _ _ h => h) (Or.inl ⟨by rfl, ?_⟩) hHeld ?_ ?_
            rotate_left
            · rintro w' ⟨s0, s1, s2, s3, s4, s5, s6, s7⟩
              go_simp
              with_reducible rfl
            rotate_left
            · simp only [Act.put, List.setIfInBounds_toArray, List.set_cons_zero, List.set_cons_succ, i64_w, i32_w]
              rfl
            refine pure_ (i := 5) (N := some 20) (v := ?_) (a' := ?_) #[true, true, true, true, true, true, false, false, true, false, true, false, false, false, false, false, false, false, false] rfl rfl (any_of HT_.out (by kernel_rfl)) (fun _ _ _ h => h) (Or.inl ⟨by rfl, ?_⟩) ?_ ?_
            rotate_left
            · intro w'
              go_simp
              with_reducible rfl
            rotate_left
            · simp only [Act.put, List.setIfInBounds_toArray, List.set_cons_zero, List.set_cons_succ, i64_w, i32_w]
              rfl
            refine pure_ (i := 6) (N := some 21) (v := ?_) (a' := ?_) #[true, true, true, true, true, true, true, false, true, false, true, false, false, false, false, false, false, false, false] rfl rfl (any_of HT_.out (by kernel_rfl)) (fun _ _ _ h => h) (Or.inl ⟨by rfl, ?_⟩) ?_ ?_
            rotate_left
            · intro w'
              go_simp
              with_reducible rfl
            rotate_left
            · simp only [Act.put, List.setIfInBounds_toArray, List.set_cons_zero, List.set_cons_succ, i64_w, i32_w]
              rfl
            refine take_ (i := 7) (N := some 22) (v := ?_) (a' := ?_) #[true, true, true, true, true, true, true, true, true, false, true, false, false, false, false, false, false, false, false] rfl rfl (take_ofW HT_.out HW_.out (by kernel_rfl)) (fun _ _ _ h => h) (Or.inl ⟨by rfl, ?_⟩) hHeld ?_ ?_
            rotate_left
            · rintro w' ⟨s0, s1, s2, s3, s4, s5, s6, s7⟩
              go_simp
              with_reducible rfl
            rotate_left
            · simp only [Act.put, List.setIfInBounds_toArray, List.set_cons_zero, List.set_cons_succ, i64_w, i32_w]
              rfl
            refine take_ (i := 9) (N := some 24) (v := ?_) (a' := ?_) #[true, true, true, true, true, true, true, true, true, true, true, false, false, false, false, false, false, false, false] rfl rfl (take_ofW HT_.out HW_.out (by kernel_rfl)) (fun _ _ _ h => h) (Or.inl ⟨by rfl, ?_⟩) hHeld ?_ ?_
            rotate_left
            · rintro w' ⟨s0, s1, s2, s3, s4, s5, s6, s7⟩
              go_simp
              with_reducible rfl
            rotate_left
            · simp only [Act.put, List.setIfInBounds_toArray, List.set_cons_zero, List.set_cons_succ, i64_w, i32_w]
              rfl
            refine pure_ (i := 11) (N := some 26) (v := ?_) (a' := ?_) #[true, true, true, true, true, true, true, true, true, true, true, true, false, false, false, false, false, false, false] rfl rfl (any_of HT_.out (by kernel_rfl)) (fun _ _ _ h => h) (Or.inl ⟨by rfl, ?_⟩) ?_ ?_
            rotate_left
            · intro w'
              go_simp
              with_reducible rfl
            rotate_left
            · simp only [Act.put, List.setIfInBounds_toArray, List.set_cons_zero, List.set_cons_succ, i64_w, i32_w]
              rfl
            refine pure_ (i := 12) (N := some 27) (v := ?_) (a' := ?_) #[true, true, true, true, true, true, true, true, true, true, true, true, true, false, false, false, false, false, false] rfl rfl (any_of HT_.out (by kernel_rfl)) (fun _ _ _ h => h) (Or.inl ⟨by rfl, ?_⟩) ?_ ?_
            rotate_left
            · intro w'
              go_simp
              with_reducible rfl
            rotate_left
            · simp only [Act.put, List.setIfInBounds_toArray, List.set_cons_zero, List.set_cons_succ, i64_w, i32_w]
              rfl
            refine take_ (i := 13) (N := some 28) (v := ?_) (a' := ?_) #[true, true, true, true, true, true, true, true, true, true, true, true, true, true, false, false, false, false, false] rfl rfl (take_ofW HT_.out HW_.out (by kernel_rfl)) (fun _ _ _ h => h) (Or.inl ⟨by rfl, ?_⟩) hHeld ?_ ?_
            rotate_left
            · rintro w' ⟨s0, s1, s2, s3, s4, s5, s6, s7⟩
              go_simp
              with_reducible rfl
            rotate_left
            · simp only [Act.put, List.setIfInBounds_toArray, List.set_cons_zero, List.set_cons_succ, i64_w, i32_w]
              rfl
            refine pure_ (i := 14) (N := some 29) (v := ?_) (a' := ?_) #[true, true, true, true, true, true, true, true, true, true, true, true, true, true, true, false, false, false, false] rfl rfl (any_of HT_.out (by kernel_rfl)) (fun _ _ _ h => h) (Or.inl ⟨by rfl, ?_⟩) ?_ ?_
            rotate_left
            · intro w'
              go_simp
              with_reducible rfl
            rotate_left
            · simp only [Act.put, List.setIfInBounds_toArray, List.set_cons_zero, List.set_cons_succ, i64_w, i32_w]
              rfl
            refine one_ (i := 15) (N := some 30) #[true, true, true, true, true, true, true, true, true, true, true, true, true, true, true, true, false, false, false] rfl rfl (one_of HT_.out (by kernel_rfl)) (by decide) (fun K hK => ?_)
            refine value_ (w1 := ?_) (v := ?_) (by rfl) rfl ?_ ?_
            rotate_left 2
            · go_simp
              constructor
              · rfl
              · rfl
            refine hK.out _ _ ⟨(blk_cell (blk_alloc BK197.out _) 0).trans rfl, (blk_cell (blk_alloc BK197.out _) 1).trans rfl, (blk_cell (blk_alloc BK195.out _) 0).trans rfl, (blk_cell (blk_alloc BK195.out _) 1).trans rfl, (World.cell?_alloc_lt _ _ _ (World.block_lt_of_cell? _ _ (((HB.out.cell (World.block_lt_of_cell? w _ hw198_0)).trans hw198_0)))).trans (((HB.out.cell (World.block_lt_of_cell? w _ hw198_0)).trans hw198_0)), (World.cell?_alloc_lt _ _ _ (World.block_lt_of_cell? _ _ (((HB.out.cell (World.block_lt_of_cell? w _ hw198_1)).trans hw198_1)))).trans (((HB.out.cell (World.block_lt_of_cell? w _ hw198_1)).trans hw198_1)), (World.cell?_alloc_lt _ _ _ (World.block_lt_of_cell? _ _ (((HB.out.cell (World.block_lt_of_cell? w _ hw199_0)).trans hw199_0)))).trans (((HB.out.cell (World.block_lt_of_cell? w _ hw199_0)).trans hw199_0)), (World.cell?_alloc_lt _ _ _ (World.block_lt_of_cell? _ _ (((HB.out.cell (World.block_lt_of_cell? w _ hw199_1)).trans hw199_1)))).trans (((HB.out.cell (World.block_lt_of_cell? w _ hw199_1)).trans hw199_1))⟩ (fun hHeld => ?_)
            clear hK K
            refine norm_ (a' := ?_) ?_ ?_
            rotate_left
            · show Act.put _ (some 30) _ = _
              simp only [Act.put, List.setIfInBounds_toArray, List.set_cons_zero, List.set_cons_succ, i64_w, i32_w]
              rfl
            refine one_ (i := 16) (N := some 31) #[true, true, true, true, true, true, true, true, true, true, true, true, true, true, true, true, true, false, false] rfl rfl (one_of HT_.out (by kernel_rfl)) (by decide) (fun K hK => ?_)
            refine Kd.R_append_step k76 (w0 := w) w.heap.size (by rfl) (.tmp 16) (.tmp 30) 23 76 (.agg #[(.string ⟨#[]⟩), (.string ⟨#[]⟩)]) 32 rfl Tryz.underlying23 info76 rfl (by decide) (by omega) u198000 x198000_1 (⟨(rd_T78 l0_0 x4_1).f0, (rd_T78 l0_0 x4_1).f1⟩ : S76) [.string ((rd_T78 l0_0 x4_1).f0), .string ((rd_T78 l0_0 x4_1).f1)] (fun _ => True) (fun _ => False) rfl rfl ?aP (fun _ hk => hk.elim) ?aF ?aO ?aB ?aS ?aL ?_
            (case aP => exact k76_mkM _ _ _ (⟨(rd_T78 l0_0 x4_1).f0, (rd_T78 l0_0 x4_1).f1⟩ : S76))
            (case aB => exact (by repeat (first | (with_reducible first | exact HB.out | apply below_alloc | apply pw_below_drewN | apply below_drew1 | refine below_set ?_ GE195.out | refine below_set ?_ GE196.out | refine below_set ?_ GE197.out) | exact HB.out)))
            (case aF => exact (fun _ _ => trivial))
            (case aO => exact (by (with_reducible repeat (first | apply Kd.R_alloc | apply Kd.R_drewN | apply Kd.R_drew)); exact HO_198000.out))
            (case aS => exact (below_size (by repeat (first | (with_reducible first | exact HB.out | apply below_alloc | apply pw_below_drewN | apply below_drew1 | refine below_set ?_ GE195.out | refine below_set ?_ GE196.out | refine below_set ?_ GE197.out) | exact HB.out))))
            (case aL => have := LMc12.out; omega)
            intro v201 w17 ho hb hg hat
            rw [← Ny200.out] at ho
            have n0_ := Aside0.mk (blk_grown (g := gb195) (o := .cells #[.slice (some ad198) l0_0.length c0_0, .string a0_1] 31 (0, 0)) (by (with_reducible repeat (first | refine blk_drewN ?_ _ | refine blk_drew ?_ | refine blk_alloc ?_ _)); exact BK195.out) hg (Kd.R_ne HO_198000.out BK195.out (by decide)))
            have n1_ := Aside0.mk (blk_grown (g := gb196) (o := .cells #[.slice none 0 0, .string (⟨#[]⟩ : ByteArray)] 25 (0, 0)) (by (with_reducible repeat (first | refine blk_drewN ?_ _ | refine blk_drew ?_ | refine blk_alloc ?_ _)); exact BK196.out) hg (Kd.R_ne HO_198000.out BK196.out (by decide)))
            have n2_ := Aside0.mk (blk_grown (g := gb197) (o := .cells #[u198000, .string a0_1] 25 (0, 0)) (by (with_reducible repeat (first | refine blk_drewN ?_ _ | refine blk_drew ?_ | refine blk_alloc ?_ _)); exact BK197.out) hg (Kd.R_ne HO_198000.out BK197.out (by decide)))
            have n3_ := Aside0.mk (hb)
            have n4_ := Aside0.mk (ho)
            clear BK195
            clear BK196
            clear BK197
            clear HB
            clear HO_198000
            have BK195 := n0_
            have BK196 := n1_
            have BK197 := n2_
            have HB := n3_
            have HO202 := n4_
            clear n0_ n1_ n2_ n3_ n4_
            clear ho hb hg hat
            obtain ⟨Ao18, co18, eo18⟩ := Kd.R_slice HO202.out
            (first | subst eo18 | (injection eo18 with f1_ f2_ f3_; have f4_ := f1_.symm; have f5_ := f3_.symm; clear f1_ f2_ f3_; subst f4_; subst f5_))
            refine hK.out _ _ ⟨(blk_cell BK197.out 0).trans rfl, (blk_cell BK197.out 1).trans rfl, (blk_cell BK195.out 0).trans rfl, (blk_cell BK195.out 1).trans rfl, ((HB.out.cell (World.block_lt_of_cell? w _ hw198_0)).trans hw198_0), ((HB.out.cell (World.block_lt_of_cell? w _ hw198_1)).trans hw198_1), ((HB.out.cell (World.block_lt_of_cell? w _ hw199_0)).trans hw199_0), ((HB.out.cell (World.block_lt_of_cell? w _ hw199_1)).trans hw199_1)⟩ (fun hHeld => ?_)
            clear hK K
            refine norm_ (a' := ?_) ?_ ?_
            rotate_left
            · show Act.put _ (some 31) _ = _
              simp only [Act.put, List.setIfInBounds_toArray, List.set_cons_zero, List.set_cons_succ, i64_w, i32_w]
              rfl
            refine pure_ (i := 17) (N := some 32) (v := ?_) (a' := ?_) #[true, true, true, true, true, true, true, true, true, true, true, true, true, true, true, true, true, true, false] rfl rfl (any_of HT_.out (by kernel_rfl)) (fun _ _ _ h => h) (Or.inl ⟨by rfl, ?_⟩) ?_ ?_
            rotate_left
            · intro w'
              go_simp
              with_reducible rfl
            rotate_left
            · simp only [Act.put, List.setIfInBounds_toArray, List.set_cons_zero, List.set_cons_succ, i64_w, i32_w]
              rfl
            refine last_ (i := 18) (N := none) #[true, true, true, true, true, true, true, true, true, true, true, true, true, true, true, true, true, true, true] rfl rfl (one_of HT_.out (by kernel_rfl)) (by decide) (fun K hK => ?_)
            have hs19 : w17.cell? ⟨gb197, 0, none⟩ = some (u198000) := (blk_cell BK197.out 0).trans rfl
            have hfs19 := blk_frozen BK197.out 0
            have hns19_0 := NB195_197.out
            have hns19_1 := NB196_197.out
            have hms19_0 := NB197_195.out
            have hms19_1 := NB197_196.out
            refine skip_ (w1 := ?_) (by rfl) rfl ?_ ?_
            rotate_left
            · go_simp
              rfl
            refine hK.out _ _ ?_
            clear hK K
            refine done_ (done_of HT_.out (by kernel_rfl)) ?_
            try go_wp2
            go_roundg k1
            case measure => have := HK1.out; omega
            case rel => exact ⟨(wrap64 (x4_1 + 1)), (y200), (.slice Ao18 y200.length co18), (by first | rfl | (simp; done) | (simp [*]; done)), H', ⟨by have := HK1.out; omega⟩, ⟨by (with_reducible repeat (first | apply Kd.R_alloc | apply Kd.R_drewN | apply Kd.R_drew)); exact Kd.R_mono (Kd.R_far (p := ⟨gb197, 0, none⟩) (Kd.R_types HO202.out BK197.out (by decide)) (fun _ hk => hk.2) (.slice Ao18 y200.length co18)) (fun _ hk => trivial)⟩, ⟨by (with_reducible repeat (first | refine blk_drewN ?_ _ | refine blk_drew ?_ | refine blk_alloc ?_ _)); refine blk_far ?_ NB195_197.out _; (with_reducible repeat (first | refine blk_drewN ?_ _ | refine blk_drew ?_ | refine blk_alloc ?_ _)); exact BK195.out⟩, ⟨by (with_reducible repeat (first | refine blk_drewN ?_ _ | refine blk_drew ?_ | refine blk_alloc ?_ _)); refine blk_far ?_ NB196_197.out _; (with_reducible repeat (first | refine blk_drewN ?_ _ | refine blk_drew ?_ | refine blk_alloc ?_ _)); exact BK196.out⟩, ⟨by (with_reducible repeat (first | refine blk_drewN ?_ _ | refine blk_drew ?_ | refine blk_alloc ?_ _)); refine blk_put (cs := #[u198000, .string a0_1]) ?_ 0 _ rfl; (with_reducible repeat (first | refine blk_drewN ?_ _ | refine blk_drew ?_ | refine blk_alloc ?_ _)); exact BK197.out⟩, ⟨by repeat (first | (with_reducible first | exact HB.out | apply below_alloc | apply pw_below_drewN | apply below_drew1 | refine below_set ?_ GE195.out | refine below_set ?_ GE196.out | refine below_set ?_ GE197.out) | exact HB.out)⟩⟩
          · rw [if_neg c12] at H
            exact absurd H (by simp)
        · rw [if_neg c11] at H
          exact absurd H (by simp)
      · rw [if_neg c10] at H
        have c10b0 : decide (x4_1 < (l0_0.length : Int)) = false := decide_eq_false c10
        clear c10
        simp only [Option.some.injEq, Prod.mk.injEq] at H
        obtain ⟨rfl, rfl⟩ := H
        have hnb20 := NB195_196.out
        have hnc20 := NB196_195.out
        have hnb21 := NB195_197.out
        have hnc21 := NB197_195.out
        have hcz22_0 : wr.cell? ⟨gb195, 0, none⟩ = some (.slice A0_0 l0_0.length c0_0) := (blk_cell BK195.out 0).trans rfl
        have hcz22_1 : wr.cell? ⟨gb195, 1, none⟩ = some (.string a0_1) := (blk_cell BK195.out 1).trans rfl
        have hfz22_0 := blk_frozen BK195.out 0
        have hfz22_1 := blk_frozen BK195.out 1
        have hnb23 := NB197_196.out
        have hnc23 := NB196_197.out
        have hcz24_0 : wr.cell? ⟨gb197, 0, none⟩ = some (u198000) := (blk_cell BK197.out 0).trans rfl
        have hcz24_1 : wr.cell? ⟨gb197, 1, none⟩ = some (.string a0_1) := (blk_cell BK197.out 1).trans rfl
        have hfz24_0 := blk_frozen BK197.out 0
        have hfz24_1 := blk_frozen BK197.out 1
        obtain ⟨Ao25, co25, eo25⟩ := Kd.R_slice HO_198000.out
        subst eo25
        have hcz26_0 : wr.cell? ⟨gb196, 0, none⟩ = some (.slice none 0 0) := (blk_cell BK196.out 0).trans rfl
        have hcz26_1 : wr.cell? ⟨gb196, 1, none⟩ = some (.string (⟨#[]⟩ : ByteArray)) := (blk_cell BK196.out 1).trans rfl
        have hfz26_0 := blk_frozen BK196.out 0
        have hfz26_1 := blk_frozen BK196.out 1
        go_wp2
        refine bodyPost_ret (results_cell_row rfl _ _ gb196 25 #[.slice Ao25 x198000_1.length co25, .string a0_1] (0, 0) _ rfl (by (with_reducible repeat (first | refine blk_drewN ?_ _ | refine blk_drew ?_ | refine blk_alloc ?_ _)); refine blk_put (cs := #[.slice Ao25 x198000_1.length co25, .string (⟨#[]⟩ : ByteArray)]) ?_ 1 _ rfl; (with_reducible repeat (first | refine blk_drewN ?_ _ | refine blk_drew ?_ | refine blk_alloc ?_ _)); refine blk_put (cs := #[.slice none 0 0, .string (⟨#[]⟩ : ByteArray)]) ?_ 0 _ rfl; (with_reducible repeat (first | refine blk_drewN ?_ _ | refine blk_drew ?_ | refine blk_alloc ?_ _)); exact BK196.out) Tryz.underlying25 rfl (by kernel_rfl)) rfl ?_
        exact ⟨_, by first | rfl | (simp [errW_none, errW_some] <;> rfl) | (simp [*, errW_none, errW_some] <;> rfl), by (with_reducible repeat (first | apply Kd.R_alloc | apply Kd.R_drewN | apply Kd.R_drew)); exact Kd.R_mono (Kd.R_far (p := ⟨gb196, 1, none⟩) (Kd.R_far (p := ⟨gb196, 0, none⟩) (Kd.R_types HO_198000.out BK196.out (by decide)) (fun _ hk => hk.2) (.slice Ao25 x198000_1.length co25)) (fun _ hk => hk.2) (.string a0_1)) (fun _ hk => trivial), by repeat (first | (with_reducible first | exact HB.out | apply below_alloc | apply pw_below_drewN | apply below_drew1 | refine below_set ?_ GE195.out | refine below_set ?_ GE196.out | refine below_set ?_ GE197.out) | exact HB.out)⟩

/-! ### bulletinref01_Printable: function 98 -/
def bulletinref01_Printable.l0 : Nat → ByteArray → Int → Option (Int)
  | 0, _, _ => none
  | k + 1, x0, x3 => if x3 < (x0.size : Int) then (if 0 ≤ x3 then ((bulletinref01_Visible.f (bt x0 x3)).bind fun t203 => (if t203 = true then (bulletinref01_Printable.l0 k x0 (wrap64 (x3 + 1))) else (if (bt x0 x3) = 32 then (bulletinref01_Printable.l0 k x0 (wrap64 (x3 + 1))) else (some x3)))) else (none)) else (some (-1))
def bulletinref01_Printable.f (k : Nat) (a0 : ByteArray) : Option (Int) := bulletinref01_Printable.l0 k a0 0
set_option maxHeartbeats 8000000 in
set_option maxRecDepth 100000 in
theorem bulletinref01_Printable.calls (k : Nat) (a0 : ByteArray) (r : Int) (w : World) (h : bulletinref01_Printable.f k a0 = some r) :
    Calls Tryz.prog 98 #[.string a0] w fun e w' => e = .returned (.int .i64 r) ∧ Drawn0 w w' := by
  have H : (bulletinref01_Printable.l0 k a0 0) = some r := h
  clear h
  have H' := Aside0.mk H
  clear H
  go_enter Tryz.func98, Tryz.ntmps98
  go_wp2
  go_loopg [3] k (fun kq v3 w' => ∃ (x3_1 : Int), v3 = .int .i64 x3_1 ∧ Aside0 (bulletinref01_Printable.l0 kq a0 x3_1 = some r) ∧ Aside0 (kq ≤ k) ∧ Drawn0 w w')
  case atStart => exact ⟨(0), (by first | rfl | (simp; done) | (simp [*]; done)), H', ⟨Nat.le_refl _⟩, by repeat (first | exact Drawn0.refl _ | apply Drawn0.step)⟩
  case round =>
    clear H'
    obtain ⟨x3_1, rfl, HA, HK1, ⟨m1, rfl⟩⟩ := hrel
    cases gk with
    | zero => exact absurd HA.out (by simp [bulletinref01_Printable.l0])
    | succ k1 =>
      have H := HA.out
      clear HA
      simp only [bulletinref01_Printable.l0] at H
      by_cases c2 : x3_1 < (a0.size : Int)
      · rw [if_pos c2] at H
        have c2b0 : decide (x3_1 < (a0.size : Int)) = true := decide_eq_true c2
        clear c2
        by_cases c3 : 0 ≤ x3_1
        · rw [if_pos c3] at H
          have c3b0 : decide (0 ≤ x3_1) = true := decide_eq_true c3
          clear c3
          replace H := Option.bind_eq_some_iff.mp H
          obtain ⟨t203, A50, H⟩ := H
          replace H : (if t203 = true then (bulletinref01_Printable.l0 k1 a0 (wrap64 (x3_1 + 1))) else (if (bt a0 x3_1) = 32 then (bulletinref01_Printable.l0 k1 a0 (wrap64 (x3_1 + 1))) else (some x3_1))) = some r := H
          have A5 := Aside0.mk A50
          clear A50
          by_cases c6 : t203 = true
          · subst c6
            have H1 : (bulletinref01_Printable.l0 k1 a0 (wrap64 (x3_1 + 1))) = some r := by rw [if_pos rfl] at H; exact H
            clear H
            have H := H1
            clear H1
            have H' := Aside0.mk H
            clear H
            have p4 : 0 ≤ (x3_1 : Int) := of_decide_eq_true (by first | (with_reducible assumption) | assumption)
            have q4 : x3_1 < (a0.size : Int) := of_decide_eq_true (by first | (with_reducible assumption) | assumption)
            have hx4 := bt_at a0 x3_1
            replace p4 := eq_true p4
            replace q4 := eq_true q4
            go_wp2_with (first | ((with_reducible refine gate_callee (f := 60) rfl ?_); refine goesL_ (some 13) rfl rfl Tryz.func60 (by kernel_rfl) rfl #[.int .u8 (bt a0 x3_1)] rfl (by (try simp only [List.map_toArray, List.map_cons, List.map_nil]); first | done | rfl | (simp only [List.length_drop, List.length_take]; rfl)) ?_; (with_reducible refine (bulletinref01_Visible.calls (bt a0 x3_1) true _ A5.out).mono ?_); rintro e w' ⟨rfl, ⟨nd, rfl⟩⟩; refine ⟨_, rfl, ?_⟩))
            go_roundg k1
            case measure => have := HK1.out; omega
            case rel => exact ⟨(wrap64 (x3_1 + 1)), (by first | rfl | (simp; done) | (simp [*]; done)), H', ⟨by have := HK1.out; omega⟩, by repeat (first | exact Drawn0.refl _ | apply Drawn0.step)⟩
          · replace c6 := Bool.eq_false_iff.mpr c6
            subst c6
            have H1 : (if (bt a0 x3_1) = 32 then (bulletinref01_Printable.l0 k1 a0 (wrap64 (x3_1 + 1))) else (some x3_1)) = some r := by rw [if_neg (show ¬ (false = true) by decide)] at H; exact H
            clear H
            have H := H1
            clear H1
            by_cases c8 : (bt a0 x3_1) = 32
            · rw [if_pos c8] at H
              have c8b0 : ((bt a0 x3_1) == 32) = true := beq_iff_eq.mpr c8
              have c8b1 : ((bt a0 x3_1) != 32) = false := bne_eq_false_iff_eq.mpr c8
              clear c8
              have H' := Aside0.mk H
              clear H
              have p4 : 0 ≤ (x3_1 : Int) := of_decide_eq_true (by first | (with_reducible assumption) | assumption)
              have q4 : x3_1 < (a0.size : Int) := of_decide_eq_true (by first | (with_reducible assumption) | assumption)
              have hx4 := bt_at a0 x3_1
              replace p4 := eq_true p4
              replace q4 := eq_true q4
              go_wp2_with (first | ((with_reducible refine gate_callee (f := 60) rfl ?_); refine goesL_ (some 13) rfl rfl Tryz.func60 (by kernel_rfl) rfl #[.int .u8 (bt a0 x3_1)] rfl (by (try simp only [List.map_toArray, List.map_cons, List.map_nil]); first | done | rfl | (simp only [List.length_drop, List.length_take]; rfl)) ?_; (with_reducible refine (bulletinref01_Visible.calls (bt a0 x3_1) false _ A5.out).mono ?_); rintro e w' ⟨rfl, ⟨nd, rfl⟩⟩; refine ⟨_, rfl, ?_⟩; have p7 : 0 ≤ (x3_1 : Int) := of_decide_eq_true (by first | (with_reducible assumption) | assumption); have q7 : x3_1 < (a0.size : Int) := of_decide_eq_true (by first | (with_reducible assumption) | assumption); have hx7 := bt_at a0 x3_1; replace p7 := eq_true p7; replace q7 := eq_true q7))
              go_roundg k1
              case measure => have := HK1.out; omega
              case rel => exact ⟨(wrap64 (x3_1 + 1)), (by first | rfl | (simp; done) | (simp [*]; done)), H', ⟨by have := HK1.out; omega⟩, by repeat (first | exact Drawn0.refl _ | apply Drawn0.step)⟩
            · rw [if_neg c8] at H
              have c8b0 : ((bt a0 x3_1) == 32) = false := beq_eq_false_iff_ne.mpr c8
              have c8b1 : ((bt a0 x3_1) != 32) = true := bne_iff_ne.mpr c8
              obtain rfl := Option.some.inj H
              have p4 : 0 ≤ (x3_1 : Int) := of_decide_eq_true (by first | (with_reducible assumption) | assumption)
              have q4 : x3_1 < (a0.size : Int) := of_decide_eq_true (by first | (with_reducible assumption) | assumption)
              have hx4 := bt_at a0 x3_1
              replace p4 := eq_true p4
              replace q4 := eq_true q4
              go_wp2_with (first | ((with_reducible refine gate_callee (f := 60) rfl ?_); refine goesL_ (some 13) rfl rfl Tryz.func60 (by kernel_rfl) rfl #[.int .u8 (bt a0 x3_1)] rfl (by (try simp only [List.map_toArray, List.map_cons, List.map_nil]); first | done | rfl | (simp only [List.length_drop, List.length_take]; rfl)) ?_; (with_reducible refine (bulletinref01_Visible.calls (bt a0 x3_1) false _ A5.out).mono ?_); rintro e w' ⟨rfl, ⟨nd, rfl⟩⟩; refine ⟨_, rfl, ?_⟩; have p7 : 0 ≤ (x3_1 : Int) := of_decide_eq_true (by first | (with_reducible assumption) | assumption); have q7 : x3_1 < (a0.size : Int) := of_decide_eq_true (by first | (with_reducible assumption) | assumption); have hx7 := bt_at a0 x3_1; replace p7 := eq_true p7; replace q7 := eq_true q7))
              go_ret
              exact ⟨by first | rfl | (simp; done) | (simp [*]; done), by repeat (first | exact Drawn0.refl _ | apply Drawn0.step)⟩
        · rw [if_neg c3] at H
          exact absurd H (by simp)
      · rw [if_neg c2] at H
        have c2b0 : decide (x3_1 < (a0.size : Int)) = false := decide_eq_false c2
        clear c2
        obtain rfl := Option.some.inj H
        go_wp2
        go_ret
        exact ⟨by first | rfl | (simp; done) | (simp [*]; done), by repeat (first | exact Drawn0.refl _ | apply Drawn0.step)⟩

/-! ### bulletinref01_Words: function 100 -/
mutual
def bulletinref01_Words.l0 : Nat → ByteArray → List ByteArray → Int → Int → Option (List ByteArray)
  | 0, _, _, _, _ => none
  | k + 1, x0, x3, x4, x5 => if x5 ≤ (x0.size : Int) then (if x5 < (x0.size : Int) then (if 0 ≤ x5 then ((bulletinref01_Blank.f (bt x0 x5)).bind fun t204 => (bulletinref01_Words.j1 k x0 x3 x4 x5 (!t204))) else (none)) else (bulletinref01_Words.j1 k x0 x3 x4 x5 false)) else (some x3)
def bulletinref01_Words.j1 : Nat → ByteArray → List ByteArray → Int → Int → Bool → Option (List ByteArray)
  | 0, _, _, _, _, _ => none
  | k + 1, x0, x3, x4, x5, x22 => if x22 = true then (if x4 < 0 then (bulletinref01_Words.l0 k x0 x3 x5 (wrap64 (x5 + 1))) else (bulletinref01_Words.l0 k x0 x3 x4 (wrap64 (x5 + 1)))) else (if x4 ≥ 0 then (if 0 ≤ x4 then (if x4 ≤ x5 then (if x5 ≤ (x0.size : Int) then (if x3.length < 8796093022208 then (bulletinref01_Words.l0 k x0 (x3 ++ [x0.extract (x4 : Int).toNat (x5 : Int).toNat]) (-1) (wrap64 (x5 + 1))) else (none)) else (none)) else (none)) else (none)) else (bulletinref01_Words.l0 k x0 x3 x4 (wrap64 (x5 + 1))))
end
def bulletinref01_Words.f (k : Nat) (a0 : ByteArray) : Option (List ByteArray) := bulletinref01_Words.l0 k a0 ([] : List ByteArray) (-1) 0
set_option maxHeartbeats 8000000 in
set_option maxRecDepth 100000 in
theorem bulletinref01_Words.calls (k : Nat) (a0 : ByteArray) (r : List ByteArray) (w : World) (h : bulletinref01_Words.f k a0 = some r) :
    Calls Tryz.prog 100 #[.string a0] w fun e w' => ∃ v0_ : Value, e = .returned (v0_) ∧ Kd.R Kd.string 9 w' w.heap.size (fun _ => True) v0_ r ∧ Below w.heap.size w w' := by
  have HB := Aside0.mk (Below.refl w.heap.size w)
  have H : (bulletinref01_Words.l0 k a0 ([] : List ByteArray) (-1) 0) = some r := h
  clear h
  have H' := Aside0.mk H
  clear H
  go_enter Tryz.func100, Tryz.ntmps100
  go_wp2
  go_loopg [3, 4, 5] k (fun kq v3 v4 v5 w' => ∃ (x3_1 : List ByteArray) (x4_1 : Int) (x5_1 : Int), v4 = .int .i64 x4_1 ∧ v5 = .int .i64 x5_1 ∧ Aside0 (bulletinref01_Words.l0 kq a0 x3_1 x4_1 x5_1 = some r) ∧ Aside0 (kq ≤ k) ∧ Aside0 (Kd.R Kd.string 9 w' w.heap.size (fun _ => True) v3 x3_1) ∧ Aside0 (Below w.heap.size w w'))
  case atStart => exact ⟨(([] : List ByteArray)), ((-1)), (0), (by first | rfl | (simp; done) | (simp [*]; done)), (by first | rfl | (simp; done) | (simp [*]; done)), H', ⟨Nat.le_refl _⟩, ⟨by first | exact Kd.R_nil _ _ _ _ _ | exact Kd.N_nil _ _ _ _ _ | exact Kd.V_nil _ _ _ _ _ | exact Kd.Q_nil _ _ _ _ _ | exact Kd.S_nil _ _ _ _ _⟩, ⟨by repeat (first | (with_reducible first | exact HB.out | apply below_alloc | apply pw_below_drewN | apply below_drew1) | exact HB.out)⟩⟩
  case round =>
    clear H'
    try clear c1
    obtain ⟨x3_1, x4_1, x5_1, rfl, rfl, HA, HK1, HO_3, HB⟩ := hrel
    cases gk with
    | zero => exact absurd HA.out (by simp [bulletinref01_Words.l0])
    | succ k1 =>
      have H := HA.out
      clear HA
      simp only [bulletinref01_Words.l0] at H
      by_cases c2 : x5_1 ≤ (a0.size : Int)
      · rw [if_pos c2] at H
        have c2b0 : decide (x5_1 ≤ (a0.size : Int)) = true := decide_eq_true c2
        clear c2
        have HC3 := Aside0.mk H
        clear H
        go_upto_region 6 with (fail)
        go_cut [22] (fun v22 wc => ∃ (kq : Nat) (x22_2 : Bool), v22 = .bool x22_2 ∧ Aside0 (bulletinref01_Words.j1 kq a0 x3_1 x4_1 x5_1 x22_2 = some r) ∧ Aside0 (kq ≤ k1) ∧ Aside0 (Kd.R Kd.string 9 wc w.heap.size (fun _ => True) u3 x3_1) ∧ Aside0 (Below w.heap.size w wc))
        case first =>
          have H := HC3.out
          clear HC3
          by_cases c4 : x5_1 < (a0.size : Int)
          · rw [if_pos c4] at H
            have c4b0 : decide (x5_1 < (a0.size : Int)) = true := decide_eq_true c4
            clear c4
            (first | rw [c4b0] | (simp only [i64_w, i32_w]; rw [c4b0]) | skip)
            by_cases c5 : 0 ≤ x5_1
            · rw [if_pos c5] at H
              have c5b0 : decide (0 ≤ x5_1) = true := decide_eq_true c5
              clear c5
              replace H := Option.bind_eq_some_iff.mp H
              obtain ⟨t204, A70, H⟩ := H
              replace H : (bulletinref01_Words.j1 k1 a0 x3_1 x4_1 x5_1 (!t204)) = some r := H
              have A7 := Aside0.mk A70
              clear A70
              have H' := Aside0.mk H
              clear H
              have p6 : 0 ≤ (x5_1 : Int) := of_decide_eq_true (by first | (with_reducible assumption) | assumption)
              have q6 : x5_1 < (a0.size : Int) := of_decide_eq_true (by first | (with_reducible assumption) | assumption)
              have hx6 := bt_at a0 x5_1
              replace p6 := eq_true p6
              replace q6 := eq_true q6
              go_wp2_with (first | (go_at_call 61; (with_reducible refine (bulletinref01_Blank.calls (bt a0 x5_1) t204 _ A7.out).mono ?_); rintro e w' ⟨rfl, ⟨nd, rfl⟩⟩))
              go_meet
              case rel => exact ⟨_, (!t204), (by first | rfl | (simp; done) | (simp [*]; done)), H', ⟨by have := HK1.out; first | omega | exact Nat.le_refl _⟩, ⟨by (with_reducible repeat (first | apply Kd.R_alloc | apply Kd.R_drewN | apply Kd.R_drew)); exact HO_3.out⟩, ⟨by repeat (first | (with_reducible first | exact HB.out | apply below_alloc | apply pw_below_drewN | apply below_drew1) | exact HB.out)⟩⟩
            · rw [if_neg c5] at H
              exact absurd H (by simp)
          · rw [if_neg c4] at H
            have c4b0 : decide (x5_1 < (a0.size : Int)) = false := decide_eq_false c4
            clear c4
            (first | rw [c4b0] | (simp only [i64_w, i32_w]; rw [c4b0]) | skip)
            have H' := Aside0.mk H
            clear H
            go_wp2
            go_meet
            case rel => exact ⟨_, (false), (by first | rfl | (simp; done) | (simp [*]; done)), H', ⟨by have := HK1.out; first | omega | exact Nat.le_refl _⟩, ⟨by (with_reducible repeat (first | apply Kd.R_alloc | apply Kd.R_drewN | apply Kd.R_drew)); exact HO_3.out⟩, ⟨by repeat (first | (with_reducible first | exact HB.out | apply below_alloc | apply pw_below_drewN | apply below_drew1) | exact HB.out)⟩⟩
        case rest =>
          clear HC3
          try clear c1
          try clear c2
          try clear c2b0
          try clear p2
          try clear c4
          try clear c4b0
          try clear c5
          try clear c5b0
          try clear p6
          try clear q6
          try clear hx6
          try clear p6
          try clear q6
          obtain ⟨kq, x22_2, rfl, HA, HJ2, HO_3, HB⟩ := hcut
          cases kq with
          | zero => exact absurd HA.out (by simp [bulletinref01_Words.j1])
          | succ kj2 =>
            have H := HA.out
            clear HA
            simp only [bulletinref01_Words.j1] at H
            by_cases c8 : x22_2 = true
            · subst c8
              have H1 : (if x4_1 < 0 then (bulletinref01_Words.l0 kj2 a0 x3_1 x5_1 (wrap64 (x5_1 + 1))) else (bulletinref01_Words.l0 kj2 a0 x3_1 x4_1 (wrap64 (x5_1 + 1)))) = some r := by rw [if_pos rfl] at H; exact H
              clear H
              have H := H1
              clear H1
              by_cases c9 : x4_1 < 0
              · rw [if_pos c9] at H
                have c9b0 : decide (x4_1 < 0) = true := decide_eq_true c9
                clear c9
                have H' := Aside0.mk H
                clear H
                go_wp2
                go_roundg kj2
                case measure => have := HK1.out; have := HJ2.out; omega
                case rel => exact ⟨(x3_1), (x5_1), (wrap64 (x5_1 + 1)), (by first | rfl | (simp; done) | (simp [*]; done)), (by first | rfl | (simp; done) | (simp [*]; done)), H', ⟨by have := HK1.out; have := HJ2.out; omega⟩, ⟨by (with_reducible repeat (first | apply Kd.R_alloc | apply Kd.R_drewN | apply Kd.R_drew)); exact HO_3.out⟩, ⟨by repeat (first | (with_reducible first | exact HB.out | apply below_alloc | apply pw_below_drewN | apply below_drew1) | exact HB.out)⟩⟩
              · rw [if_neg c9] at H
                have c9b0 : decide (x4_1 < 0) = false := decide_eq_false c9
                clear c9
                have H' := Aside0.mk H
                clear H
                go_wp2
                go_roundg kj2
                case measure => have := HK1.out; have := HJ2.out; omega
                case rel => exact ⟨(x3_1), (x4_1), (wrap64 (x5_1 + 1)), (by first | rfl | (simp; done) | (simp [*]; done)), (by first | rfl | (simp; done) | (simp [*]; done)), H', ⟨by have := HK1.out; have := HJ2.out; omega⟩, ⟨by (with_reducible repeat (first | apply Kd.R_alloc | apply Kd.R_drewN | apply Kd.R_drew)); exact HO_3.out⟩, ⟨by repeat (first | (with_reducible first | exact HB.out | apply below_alloc | apply pw_below_drewN | apply below_drew1) | exact HB.out)⟩⟩
            · replace c8 := Bool.eq_false_iff.mpr c8
              subst c8
              have H1 : (if x4_1 ≥ 0 then (if 0 ≤ x4_1 then (if x4_1 ≤ x5_1 then (if x5_1 ≤ (a0.size : Int) then (if x3_1.length < 8796093022208 then (bulletinref01_Words.l0 kj2 a0 (x3_1 ++ [a0.extract (x4_1 : Int).toNat (x5_1 : Int).toNat]) (-1) (wrap64 (x5_1 + 1))) else (none)) else (none)) else (none)) else (none)) else (bulletinref01_Words.l0 kj2 a0 x3_1 x4_1 (wrap64 (x5_1 + 1)))) = some r := by rw [if_neg (show ¬ (false = true) by decide)] at H; exact H
              clear H
              have H := H1
              clear H1
              by_cases c10 : x4_1 ≥ 0
              · rw [if_pos c10] at H
                have c10b0 : decide (0 ≤ x4_1) = true := decide_eq_true c10
                clear c10
                by_cases c11 : 0 ≤ x4_1
                · rw [if_pos c11] at H
                  have c11b0 := eq_true c11
                  have c11b1 : decide (0 ≤ x4_1) = true := decide_eq_true c11
                  clear c11
                  by_cases c12 : x4_1 ≤ x5_1
                  · rw [if_pos c12] at H
                    have c12b0 := eq_true c12
                    have c12b1 : decide (x4_1 ≤ x5_1) = true := decide_eq_true c12
                    clear c12
                    by_cases c13 : x5_1 ≤ (a0.size : Int)
                    · rw [if_pos c13] at H
                      have c13b0 := eq_true c13
                      have c13b1 : decide (x5_1 ≤ (a0.size : Int)) = true := decide_eq_true c13
                      clear c13
                      by_cases c14 : x3_1.length < 8796093022208
                      · rw [if_pos c14] at H
                        have LMc14 := Aside0.mk c14
                        clear c14
                        obtain ⟨y205, hy205⟩ : ∃ y_ : List ByteArray, y_ = (x3_1 ++ [a0.extract (x4_1 : Int).toNat (x5_1 : Int).toNat]) := ⟨_, rfl⟩
                        replace H : (bulletinref01_Words.l0 kj2 a0 y205 (-1) (wrap64 (x5_1 + 1))) = some r := by first | (rw [hy205]; with_reducible exact H) | (have H2_ := (Option.bind_some _ _).symm.trans H; rw [hy205]; with_reducible exact H2_) | (have H2_ := (Option.bind_some _ _).symm.trans H; with_reducible exact H2_) | with_reducible exact H | (rw [hy205]; exact H) | exact H
                        have Ny205 := Aside0.mk hy205
                        clear hy205
                        have H' := Aside0.mk H
                        clear H
                        go_wp2_with (first | ((with_reducible refine gate_builtin (b := .append) (xs := #[.tmp 28, .tmp 33]) rfl ?_); at_builtin; refine Kd.R_append Kd.string (w0 := w) w.heap.size rfl (.tmp 28) (.tmp 33) 51 9 (.string ⟨#[]⟩) 16 rfl Tryz.underlying51 info9 rfl (by decide) (by omega) u3 x3_1 (a0.extract (x4_1 : Int).toNat (x5_1 : Int).toNat) [.string (a0.extract (x4_1 : Int).toNat (x5_1 : Int).toNat)] (fun _ => True) (fun _ => False) rfl rfl ?aP (fun _ hk => hk.elim) ?aF ?aO ?aB ?aS ?aL ?_; (case aP => exact rfl); (case aB => exact (by repeat (first | (with_reducible first | exact HB.out | apply below_alloc | apply pw_below_drewN | apply below_drew1) | exact HB.out))); (case aF => exact (fun _ _ => trivial)); (case aO => exact (by (with_reducible repeat (first | apply Kd.R_alloc | apply Kd.R_drewN | apply Kd.R_drew)); exact HO_3.out)); (case aS => exact (below_size (by repeat (first | (with_reducible first | exact HB.out | apply below_alloc | apply pw_below_drewN | apply below_drew1) | exact HB.out)))); (case aL => have := LMc14.out; omega); intro v206 w15 ho hb hg hat; rw [← Ny205.out] at ho; have n0_ := Aside0.mk (hb); have n1_ := Aside0.mk (ho); clear HB; clear HO_3; have HB := n0_; have HO207 := n1_; clear n0_ n1_; clear ho hb hg hat))
                        go_roundg kj2
                        case measure => have := HK1.out; have := HJ2.out; omega
                        case rel => exact ⟨(y205), ((-1)), (wrap64 (x5_1 + 1)), (by first | rfl | (simp; done) | (simp [*]; done)), (by first | rfl | (simp; done) | (simp [*]; done)), H', ⟨by have := HK1.out; have := HJ2.out; omega⟩, ⟨by (with_reducible repeat (first | apply Kd.R_alloc | apply Kd.R_drewN | apply Kd.R_drew)); exact HO207.out⟩, ⟨by repeat (first | (with_reducible first | exact HB.out | apply below_alloc | apply pw_below_drewN | apply below_drew1) | exact HB.out)⟩⟩
                      · rw [if_neg c14] at H
                        exact absurd H (by simp)
                    · rw [if_neg c13] at H
                      exact absurd H (by simp)
                  · rw [if_neg c12] at H
                    exact absurd H (by simp)
                · rw [if_neg c11] at H
                  exact absurd H (by simp)
              · rw [if_neg c10] at H
                have c10b0 : decide (0 ≤ x4_1) = false := decide_eq_false c10
                clear c10
                have H' := Aside0.mk H
                clear H
                go_wp2
                go_roundg kj2
                case measure => have := HK1.out; have := HJ2.out; omega
                case rel => exact ⟨(x3_1), (x4_1), (wrap64 (x5_1 + 1)), (by first | rfl | (simp; done) | (simp [*]; done)), (by first | rfl | (simp; done) | (simp [*]; done)), H', ⟨by have := HK1.out; have := HJ2.out; omega⟩, ⟨by (with_reducible repeat (first | apply Kd.R_alloc | apply Kd.R_drewN | apply Kd.R_drew)); exact HO_3.out⟩, ⟨by repeat (first | (with_reducible first | exact HB.out | apply below_alloc | apply pw_below_drewN | apply below_drew1) | exact HB.out)⟩⟩
      · rw [if_neg c2] at H
        have c2b0 : decide (x5_1 ≤ (a0.size : Int)) = false := decide_eq_false c2
        clear c2
        obtain rfl := Option.some.inj H
        go_wp2
        go_ret
        exact ⟨_, by first | rfl | (simp [errW_none, errW_some] <;> rfl) | (simp [*, errW_none, errW_some] <;> rfl), by (with_reducible repeat (first | apply Kd.R_alloc | apply Kd.R_drewN | apply Kd.R_drew)); exact HO_3.out, by repeat (first | (with_reducible first | exact HB.out | apply below_alloc | apply pw_below_drewN | apply below_drew1) | exact HB.out)⟩

/-! ### bulletinref01_Squeeze: function 99 -/
def bulletinref01_Squeeze.l0 : Nat → ByteArray → List ByteArray → Int → Option (ByteArray)
  | 0, _, _, _ => none
  | k + 1, x3, x4, x5 => if x5 < (x4.length : Int) then (if x5 > 0 then (if x3.size + 1 ≤ 9223372036854775807 then (if 0 ≤ x5 then (if (x3 ++ (⟨#[32]⟩ : ByteArray)).size + (rdOf ByteArray.empty x4 x5).size ≤ 9223372036854775807 then (bulletinref01_Squeeze.l0 k ((x3 ++ (⟨#[32]⟩ : ByteArray)) ++ (rdOf ByteArray.empty x4 x5)) x4 (wrap64 (x5 + 1))) else (none)) else (none)) else (none)) else (if 0 ≤ x5 then (if x3.size + (rdOf ByteArray.empty x4 x5).size ≤ 9223372036854775807 then (bulletinref01_Squeeze.l0 k (x3 ++ (rdOf ByteArray.empty x4 x5)) x4 (wrap64 (x5 + 1))) else (none)) else (none))) else (some x3)
def bulletinref01_Squeeze.f (k : Nat) (a0 : ByteArray) : Option (ByteArray) := (bulletinref01_Words.f k a0).bind fun t208 => (bulletinref01_Squeeze.l0 k (⟨#[]⟩ : ByteArray) t208 0)
set_option maxHeartbeats 8000000 in
set_option maxRecDepth 100000 in
theorem bulletinref01_Squeeze.calls (k : Nat) (a0 : ByteArray) (r : ByteArray) (w : World) (h : bulletinref01_Squeeze.f k a0 = some r) :
    Calls Tryz.prog 99 #[.string a0] w fun e w' => e = .returned (.string r) ∧ Below w.heap.size w w' := by
  have HB := Aside0.mk (Below.refl w.heap.size w)
  have H : ((bulletinref01_Words.f k a0).bind fun t208 => (bulletinref01_Squeeze.l0 k (⟨#[]⟩ : ByteArray) t208 0)) = some r := h
  clear h
  replace H := Option.bind_eq_some_iff.mp H
  obtain ⟨t208, A20, H⟩ := H
  replace H : (bulletinref01_Squeeze.l0 k (⟨#[]⟩ : ByteArray) t208 0) = some r := H
  have A2 := Aside0.mk A20
  clear A20
  have H' := Aside0.mk H
  clear H
  go_enter Tryz.func99, Tryz.ntmps99
  go_wp2_with (first | ((with_reducible refine gate_callee (f := 100) rfl ?_); refine goesL_ (some 7) rfl rfl Tryz.func100 (by kernel_rfl) rfl #[.string a0] rfl (by (try simp only [List.map_toArray, List.map_cons, List.map_nil]); first | done | rfl | (simp only [List.length_drop, List.length_take]; rfl)) ?_; (with_reducible refine (bulletinref01_Words.calls k a0 t208 _ A2.out).mono ?_); rintro e w3 ⟨v209, rfl, ho0, hb⟩; refine ⟨_, rfl, ?_⟩; have n0_ := Aside0.mk (Kd.R_lower ho0 (below_size (by repeat (first | (with_reducible first | exact HB.out | apply below_alloc | apply pw_below_drewN | apply below_drew1) | exact HB.out)))); have n1_ := Aside0.mk (below_step (by repeat (first | (with_reducible first | exact HB.out | apply below_alloc | apply pw_below_drewN | apply below_drew1) | exact HB.out)) hb); clear HB; have HO210 := n0_; have HB := n1_; clear n0_ n1_; (try clear hb); (try clear hb2); (try clear hk); (try clear hi); (try clear ho0)))
  go_loopg [3, 5] k (fun kq v3 v5 w' => ∃ (x3_1 : ByteArray) (x5_1 : Int), v3 = .string x3_1 ∧ v5 = .int .i64 x5_1 ∧ Aside0 (bulletinref01_Squeeze.l0 kq x3_1 t208 x5_1 = some r) ∧ Aside0 (kq ≤ k) ∧ Aside0 (Kd.R Kd.string 9 w' w.heap.size (fun _ => True) v209 t208) ∧ Aside0 (Below w.heap.size w w'))
  case atStart => exact ⟨((⟨#[]⟩ : ByteArray)), (0), (by first | rfl | (simp; done) | (simp [*]; done)), (by first | rfl | (simp; done) | (simp [*]; done)), H', ⟨Nat.le_refl _⟩, ⟨by (with_reducible repeat (first | apply Kd.R_alloc | apply Kd.R_drewN | apply Kd.R_drew)); exact HO210.out⟩, ⟨by repeat (first | (with_reducible first | exact HB.out | apply below_alloc | apply pw_below_drewN | apply below_drew1) | exact HB.out)⟩⟩
  case round =>
    clear H'
    try clear c1
    try clear p2
    obtain ⟨x3_1, x5_1, rfl, rfl, HA, HK1, HO_4, HB⟩ := hrel
    cases gk with
    | zero => exact absurd HA.out (by simp [bulletinref01_Squeeze.l0])
    | succ k1 =>
      have H := HA.out
      clear HA
      simp only [bulletinref01_Squeeze.l0] at H
      by_cases c4 : x5_1 < (t208.length : Int)
      · rw [if_pos c4] at H
        have c4b0 : decide (x5_1 < (t208.length : Int)) = true := decide_eq_true c4
        clear c4
        by_cases c5 : x5_1 > 0
        · rw [if_pos c5] at H
          have c5b0 : decide (0 < x5_1) = true := decide_eq_true c5
          clear c5
          by_cases c6 : x3_1.size + 1 ≤ 9223372036854775807
          · rw [if_pos c6] at H
            have c6b0 := eq_true c6
            have c6b1 : decide (x3_1.size + 1 ≤ 9223372036854775807) = true := decide_eq_true c6
            try have c6b2 : (9223372036854775807 < x3_1.size + 1) = False := eq_false (Nat.not_lt.2 c6)
            by_cases c7 : 0 ≤ x5_1
            · rw [if_pos c7] at H
              have c7b0 : decide (0 ≤ x5_1) = true := decide_eq_true c7
              clear c7
              by_cases c8 : (x3_1 ++ (⟨#[32]⟩ : ByteArray)).size + (rdOf ByteArray.empty t208 x5_1).size ≤ 9223372036854775807
              · rw [if_pos c8] at H
                have c8b0 := eq_true c8
                have c8b1 : decide ((x3_1 ++ (⟨#[32]⟩ : ByteArray)).size + (rdOf ByteArray.empty t208 x5_1).size ≤ 9223372036854775807) = true := decide_eq_true c8
                try have c8b2 : (9223372036854775807 < (x3_1 ++ (⟨#[32]⟩ : ByteArray)).size + (rdOf ByteArray.empty t208 x5_1).size) = False := eq_false (Nat.not_lt.2 c8)
                have H' := Aside0.mk H
                clear H
                obtain ⟨Ao9, co9, eo9⟩ := Kd.R_slice HO_4.out
                subst eo9
                have p211 : 0 ≤ (x5_1 : Int) := of_decide_eq_true (by first | (with_reducible assumption) | assumption)
                have q211 : x5_1 < (t208.length : Int) := of_decide_eq_true (by first | (with_reducible assumption) | assumption)
                obtain ⟨ad211, e211, hx211_0⟩ := Kd.at_string (Kd.R_reads' HO_4.out).2.2 x5_1 p211 q211
                cases e211
                replace p211 := eq_true p211
                replace q211 := eq_true q211
                go_wp2
                go_roundg k1
                case measure => have := HK1.out; omega
                case rel => exact ⟨((x3_1 ++ (⟨#[32]⟩ : ByteArray)) ++ (rdOf ByteArray.empty t208 x5_1)), (wrap64 (x5_1 + 1)), (by first | rfl | (simp; done) | (simp [*]; done)), (by first | rfl | (simp; done) | (simp [*]; done)), H', ⟨by have := HK1.out; omega⟩, ⟨by (with_reducible repeat (first | apply Kd.R_alloc | apply Kd.R_drewN | apply Kd.R_drew)); exact HO_4.out⟩, ⟨by repeat (first | (with_reducible first | exact HB.out | apply below_alloc | apply pw_below_drewN | apply below_drew1) | exact HB.out)⟩⟩
              · rw [if_neg c8] at H
                exact absurd H (by simp)
            · rw [if_neg c7] at H
              exact absurd H (by simp)
          · rw [if_neg c6] at H
            exact absurd H (by simp)
        · rw [if_neg c5] at H
          have c5b0 : decide (0 < x5_1) = false := decide_eq_false c5
          clear c5
          by_cases c10 : 0 ≤ x5_1
          · rw [if_pos c10] at H
            have c10b0 : decide (0 ≤ x5_1) = true := decide_eq_true c10
            clear c10
            by_cases c11 : x3_1.size + (rdOf ByteArray.empty t208 x5_1).size ≤ 9223372036854775807
            · rw [if_pos c11] at H
              have c11b0 := eq_true c11
              have c11b1 : decide (x3_1.size + (rdOf ByteArray.empty t208 x5_1).size ≤ 9223372036854775807) = true := decide_eq_true c11
              try have c11b2 : (9223372036854775807 < x3_1.size + (rdOf ByteArray.empty t208 x5_1).size) = False := eq_false (Nat.not_lt.2 c11)
              have H' := Aside0.mk H
              clear H
              obtain ⟨Ao12, co12, eo12⟩ := Kd.R_slice HO_4.out
              subst eo12
              have p212 : 0 ≤ (x5_1 : Int) := of_decide_eq_true (by first | (with_reducible assumption) | assumption)
              have q212 : x5_1 < (t208.length : Int) := of_decide_eq_true (by first | (with_reducible assumption) | assumption)
              obtain ⟨ad212, e212, hx212_0⟩ := Kd.at_string (Kd.R_reads' HO_4.out).2.2 x5_1 p212 q212
              cases e212
              replace p212 := eq_true p212
              replace q212 := eq_true q212
              go_wp2
              go_roundg k1
              case measure => have := HK1.out; omega
              case rel => exact ⟨(x3_1 ++ (rdOf ByteArray.empty t208 x5_1)), (wrap64 (x5_1 + 1)), (by first | rfl | (simp; done) | (simp [*]; done)), (by first | rfl | (simp; done) | (simp [*]; done)), H', ⟨by have := HK1.out; omega⟩, ⟨by (with_reducible repeat (first | apply Kd.R_alloc | apply Kd.R_drewN | apply Kd.R_drew)); exact HO_4.out⟩, ⟨by repeat (first | (with_reducible first | exact HB.out | apply below_alloc | apply pw_below_drewN | apply below_drew1) | exact HB.out)⟩⟩
            · rw [if_neg c11] at H
              exact absurd H (by simp)
          · rw [if_neg c10] at H
            exact absurd H (by simp)
      · rw [if_neg c4] at H
        have c4b0 : decide (x5_1 < (t208.length : Int)) = false := decide_eq_false c4
        clear c4
        obtain rfl := Option.some.inj H
        obtain ⟨Ao13, co13, eo13⟩ := Kd.R_slice HO_4.out
        subst eo13
        go_wp2
        go_ret
        exact ⟨by first | rfl | (simp [errW_none, errW_some] <;> rfl) | (simp [*, errW_none, errW_some] <;> rfl), by repeat (first | (with_reducible first | exact HB.out | apply below_alloc | apply pw_below_drewN | apply below_drew1) | exact HB.out)⟩

end Go.Proofs.YtfeciafdioepiaaGreatDoor.PA
