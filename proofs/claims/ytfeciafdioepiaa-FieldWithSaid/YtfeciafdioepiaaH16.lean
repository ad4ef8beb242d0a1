/- The contracts of EqualFold, the predicates, selected, Get, Without, With, Unknown. -/
import Derived.Test.YtfeciafdioepiaaHB
import Derived.Laws.EntriesVeiled
set_option linter.unusedVariables false
set_option linter.unusedSimpArgs false
namespace Go.Proofs.Ytfeciafdioepiaa
open Go.RowKit Go.Proofs Go.Proofs.YtfeciafdioepiaaW.PrintWords Go.Proofs.Ytfeciafdioepiaa.PA

theorem cmp_zero : ∀ a b : List UInt8, (Lib.compareBytes a b = 0) ↔ a = b
  | [], [] => by simp [Lib.compareBytes]
  | [], b :: bs => by simp [Lib.compareBytes]
  | a :: s, [] => by simp [Lib.compareBytes]
  | a :: s, b :: bs => by
    unfold Lib.compareBytes
    have ih := cmp_zero s bs
    by_cases h1 : a < b
    · rw [if_pos h1]
      constructor
      · intro h; cases h
      · intro h; injection h with h _; subst h; exact absurd h1 (by simp)
    · rw [if_neg h1]
      by_cases h2 : b < a
      · rw [if_pos h2]
        constructor
        · intro h; cases h
        · intro h; injection h with h _; subst h; exact absurd h2 (by simp)
      · rw [if_neg h2, ih]
        have : a = b := UInt8.le_antisymm (UInt8.not_lt.1 h2) (UInt8.not_lt.1 h1)
        simp [this]
/-- Names without their case. -/
def sameName (a b : ByteArray) : Bool := decide (lowerB a = lowerB b)
theorem same_cmp (a b : ByteArray) : (Lib.compareBytes (lowerB a).data.toList (lowerB b).data.toList == 0) = sameName a b := by
  unfold sameName
  rw [Bool.eq_iff_iff, beq_iff_eq, decide_eq_true_iff, cmp_zero]
  constructor
  · intro h; rw [← mkS_data (lowerB a), h, mkS_data]
  · intro h; rw [h]

set_option maxHeartbeats 1000000 in
set_option maxRecDepth 100000 in
theorem compareFold_any (a b : ByteArray) (w : World) (ha : a.size ≤ 140737488351232) (hb : b.size ≤ 140737488351232) :
    Calls Try.prog 81 #[.string a, .string b] w fun e w' => e = .returned (.int .i64 (Lib.compareBytes (lowerB a).data.toList (lowerB b).data.toList)) ∧ Below w.heap.size w w' := by
  go_enter Try.func81, Try.ntmps81
  go_wp2_with fail
  refine (lower_any a _ ha).mono ?_
  rintro e w1 ⟨rfl, h1⟩
  have H1 := Aside0.mk h1
  clear h1
  go_wp2_with fail
  refine (lower_any b _ hb).mono ?_
  rintro e w2 ⟨rfl, h2⟩
  have H2 := Aside0.mk (H1.out.trans (h2.mono H1.out.size))
  clear h2
  go_wp2_with fail
  refine (Try.strings_Compare _ _ _).mono ?_
  rintro e w3 ⟨rfl, rfl⟩
  go_wp2
  go_ret
  exact ⟨rfl, H2.out⟩
set_option maxHeartbeats 1000000 in
set_option maxRecDepth 100000 in
theorem equalFold_any (a b : ByteArray) (w : World) (ha : a.size ≤ 140737488351232) (hb : b.size ≤ 140737488351232) :
    Calls Try.prog 64 #[.string a, .string b] w fun e w' => e = .returned (.bool (sameName a b)) ∧ Below w.heap.size w w' := by
  have hc := same_cmp a b
  generalize hz : Lib.compareBytes (lowerB a).data.toList (lowerB b).data.toList = z at *
  have Hz := Lib.hid hz
  clear hz
  go_enter Try.func64, Try.ntmps64
  go_wp2_with fail
  refine (compareFold_any a b _ ha hb).mono ?_
  rintro e w1 ⟨rfl, h1⟩
  rw [Hz.out]
  go_wp2
  go_ret
  exact ⟨rfl, h1⟩

/-- named's predicate, the name in box b. -/
theorem named1_any (b : Nat) (n : ByteArray) (x : S28) (w : World) (hb : w.heap[b]? = some (.cells #[.string n] 9 (0, 0))) (hn : n.size ≤ 140737488351232) (hx : x.f0.size ≤ 140737488351232) :
    Calls Try.prog 79 #[.agg #[.string x.f0, .string x.f1], .pointer (some ⟨b, 0, none⟩)] w fun e w' => e = .returned (.bool (sameName x.f0 n)) ∧ Below w.heap.size w w' := by
  have hu28 := Try.underlying28
  have hlt : b < w.heap.size := by
    rcases Nat.lt_or_ge b w.heap.size with h | h
    · exact h
    · simp [Array.getElem?_eq_none h] at hb
  have hBX := blk_alloc hb (.cells #[.string x.f0, .string x.f1] 28)
  have hc0 := (blk_cell hBX 0).trans rfl
  have hc := (blk_cell hb 0).trans rfl
  have hne : ¬ b = w.heap.size := by omega
  have hne2 : ¬ w.heap.size = b := by omega
  have HB0 := Aside0.mk ((Below.refl w.heap.size w).alloc (Nat.le_refl _) (.cells #[.string x.f0, .string x.f1] 28))
  clear hBX hb
  go_enter Try.func79, Try.ntmps79
  go_wp2_with fail
  refine (equalFold_any x.f0 n _ hx hn).mono ?_
  rintro e w1 ⟨rfl, h1⟩
  go_wp2
  go_ret
  exact ⟨rfl, HB0.out.trans (h1.mono HB0.out.size)⟩
theorem named_any (n : ByteArray) (w : World) : Calls Try.prog 57 #[.string n] w fun e w' => e = .returned (.func (.func 79) #[] #[.pointer (some ⟨w.heap.size, 0, none⟩)]) ∧ w' = w.alloc (.cells #[.string n] 9) := by
  have hmf : ∀ (fn : Fn) (first cap : Array Value) (w : World), (Instr.makeFunc fn first cap).run Try.prog w = .ok (.func fn first cap) w := fun _ _ _ _ => rfl
  go_enter Try.func57, Try.ntmps57
  go_wp2
  go_ret
  exact ⟨rfl, rfl⟩

set_option maxHeartbeats 2000000 in
set_option maxRecDepth 100000 in
theorem selected_59 (b : Nat) (p : S28 → Bool) (A : Option Addr) (c : Nat) (xs : List S28) (w : World) (hr : Kd.C k28 w A xs.length xs) (hc : xs.length ≤ c) (hN : xs.length ≤ 1000000)
    (hp : ∀ x ∈ xs, ∀ w1, Below w.heap.size w w1 → Calls Try.prog 59 #[.agg #[.string x.f0, .string x.f1], .pointer (some ⟨b, 0, none⟩)] w1 fun e w' => e = .returned (.bool (p x)) ∧ Below w1.heap.size w1 w') :
    Calls Try.prog 58 #[.slice A xs.length c, .func (.func 59) #[] #[.pointer (some ⟨b, 0, none⟩)]] w fun e w' => ∃ v : Value, e = .returned v ∧ Kd.R k28 28 w' w.heap.size (fun _ => True) v (xs.filter p) ∧ Below w.heap.size w w' := by
  have hu28 := Try.underlying28
  have HR := Aside0.mk hr
  have HP := Aside0.mk hp
  clear hr hp
  generalize hn : xs.length = n at *
  have Hn := Lib.hid hn
  clear hn
  go_enter Try.func58, Try.ntmps58
  go_wp2
  go_loopw [5, 10] (fun v5 v10 wr => ∃ j : Nat, j ≤ n ∧ v10 = .int .i64 j ∧ Aside0 (Kd.R k28 28 wr w.heap.size (fun _ => True) v5 ((xs.take j).filter p)) ∧ Aside0 (Below w.heap.size w wr)) (fun v5 v10 _ => n - (intOf v10).toNat)
  case atStart => exact ⟨0, Nat.zero_le _, rfl, ⟨Kd.R_nil _ _ _ _ _⟩, ⟨Below.refl _ _⟩⟩
  case round =>
    obtain ⟨j, hj, rfl, HV, HW⟩ := hrel
    by_cases hlt : j < n
    · have hjx : j < xs.length := by have := Hn.out; omega
      obtain ⟨ad, hA, hx0, hx1⟩ := at_T28 HR.out (j : Int) (by omega) (by omega)
      rw [Int.toNat_natCast] at hx0 hx1
      have hget : rd_T28 xs (j : Int) = xs[j] := by
        unfold rd_T28; rw [Int.toNat_natCast, List.getD_eq_getElem?_getD, List.getElem?_eq_getElem hjx]; rfl
      have hmem : rd_T28 xs (j : Int) ∈ xs := by rw [hget]; exact List.getElem_mem _
      have htk : (xs.take (j + 1)).filter p = (xs.take j).filter p ++ (if p (rd_T28 xs (j : Int)) = true then [rd_T28 xs (j : Int)] else []) := by
        rw [List.take_succ_eq_append_getElem hjx, List.filter_append, hget]
        by_cases h : p xs[j] = true
        · simp [h]
        · simp [h]
      have hfl : ((xs.take j).filter p).length ≤ 1000000 := by
        have h1 := List.length_filter_le p (xs.take j)
        rw [List.length_take] at h1; omega
      generalize rd_T28 xs (j : Int) = x at *
      have hy0 := (HW.out.cell (World.block_lt_of_cell? w _ hx0)).trans hx0
      have hy1 := (HW.out.cell (World.block_lt_of_cell? w _ hx1)).trans hx1
      have Htk := Lib.hid htk
      have HM := Aside0.mk hmem
      have HBX := Aside0.mk (show (wr.alloc (.cells #[.string x.f0, .string x.f1] 28)).heap[wr.heap.size]? = some (.cells #[.string x.f0, .string x.f1] 28 (0, 0)) by simpa using heap_alloc_new wr (.cells #[.string x.f0, .string x.f1] 28))
      have HBa := Aside0.mk (HW.out.alloc HW.out.size (.cells #[.string x.f0, .string x.f1] 28))
      have HVa := Aside0.mk (Kd.R_alloc HV.out (.cells #[.string x.f0, .string x.f1] 28))
      subst hA
      clear hx0 hx1 hget hmem htk
      rcases Bool.eq_false_or_eq_true (p x) with hpx | hpx
      · have Hpx := Lib.hid hpx
        rw [hpx, if_pos rfl] at Htk
        clear hpx
        go_wp2_with fail
        refine (HP.out x HM.out _ HBa.out).mono ?_
        rintro e w1 ⟨rfl, h1⟩
        rw [Hpx.out]
        have HB1 := Aside0.mk (HBa.out.trans (h1.mono HBa.out.size))
        have HV1 := Aside0.mk (Kd.R_below HVa.out h1)
        have hbx := (h1.block wr.heap.size (by simp)).trans HBX.out
        have hz0 := (blk_cell hbx 0).trans rfl
        have hz1 := (blk_cell hbx 1).trans rfl
        clear h1 hbx HV HVa
        go_wp2_with (at_builtin; refine Kd.R_append k28 (w0 := w) w.heap.size rfl (.tmp 17) (.tmp 19) 39 28 (.agg #[.string ⟨#[]⟩, .string ⟨#[]⟩]) 32 rfl Try.underlying39 info28 rfl (by decide) (by omega) u5 ((xs.take j).filter p) x [.string x.f0, .string x.f1] (fun _ => True) (fun _ => False) rfl rfl (k28_mkM _ _ _ x) (fun _ hk => hk.elim) (fun _ _ => trivial) HV1.out HB1.out HB1.out.size (by omega) ?_)
        intro v1 w2 ho hbl _ _
        have HO := Aside0.mk ho
        have HBL := Aside0.mk hbl
        clear ho hbl
        go_wp2
        go_roundw
        case rel => exact ⟨j + 1, by omega, by go_num, ⟨by rw [Htk.out]; exact HO.out⟩, HBL⟩
        case measure => simp [intOf]; omega
      · have Hpx := Lib.hid hpx
        rw [hpx, if_neg (by simp), List.append_nil] at Htk
        clear hpx
        go_wp2_with fail
        refine (HP.out x HM.out _ HBa.out).mono ?_
        rintro e w1 ⟨rfl, h1⟩
        rw [Hpx.out]
        have HB1 := Aside0.mk (HBa.out.trans (h1.mono HBa.out.size))
        have HV1 := Aside0.mk (Kd.R_below HVa.out h1)
        clear h1 HV HVa
        go_wp2
        go_roundw
        case rel => exact ⟨j + 1, by omega, by go_num, ⟨by rw [Htk.out]; exact HV1.out⟩, HB1⟩
        case measure => simp [intOf]; omega
    · have htk : xs.take j = xs := List.take_of_length_le (by have := Hn.out; omega)
      have HV2 := Aside0.mk (show Kd.R k28 28 wr w.heap.size (fun _ => True) u5 (xs.filter p) by have := HV.out; rwa [htk] at this)
      clear htk HV
      go_wp2
      go_ret
      exact ⟨u5, rfl, HV2.out, HW.out⟩
theorem blk_lt {w : World} {b : Nat} {o : Obj} (hb : w.heap[b]? = some o) : b < w.heap.size := by
  rcases Nat.lt_or_ge b w.heap.size with h | h
  · exact h
  · simp [Array.getElem?_eq_none h] at hb
/-- Without's predicate. -/
theorem without1_any (b b0 : Nat) (n : ByteArray) (x : S28) (w : World) (hb : w.heap[b]? = some (.cells #[.func (.func 79) #[] #[.pointer (some ⟨b0, 0, none⟩)]] 82 (0, 0))) (hb0 : w.heap[b0]? = some (.cells #[.string n] 9 (0, 0))) (hn : n.size ≤ 140737488351232) (hx : x.f0.size ≤ 140737488351232) :
    Calls Try.prog 59 #[.agg #[.string x.f0, .string x.f1], .pointer (some ⟨b, 0, none⟩)] w fun e w' => e = .returned (.bool (!sameName x.f0 n)) ∧ Below w.heap.size w w' := by
  have hu28 := Try.underlying28
  have hlt := blk_lt hb
  have hBX := heap_alloc_new w (.cells #[.string x.f0, .string x.f1] 28)
  have HB9 := Aside0.mk (blk_alloc hb0 (.cells #[.string x.f0, .string x.f1] 28))
  have hc := (blk_cell hb 0).trans rfl
  have hne : ¬ b = w.heap.size := by omega
  have hne2 : ¬ w.heap.size = b := by omega
  have HB0 := Aside0.mk ((Below.refl w.heap.size w).alloc (Nat.le_refl _) (.cells #[.string x.f0, .string x.f1] 28))
  clear hBX hb hb0
  go_enter Try.func59, Try.ntmps59
  go_wp2_with fail
  refine (named1_any b0 n x _ HB9.out hn hx).mono ?_
  rintro e w1 ⟨rfl, h1⟩
  go_wp2
  go_ret
  exact ⟨rfl, HB0.out.trans (h1.mono HB0.out.size)⟩
set_option maxHeartbeats 1000000 in
set_option maxRecDepth 100000 in
theorem without_any (A : Option Addr) (c : Nat) (xs : List S28) (n : ByteArray) (w : World) (hr : Kd.C k28 w A xs.length xs) (hc : xs.length ≤ c) (hN : xs.length ≤ 1000000) (hn : n.size ≤ 140737488351232) (hx : ∀ x ∈ xs, x.f0.size ≤ 140737488351232) :
    Calls Try.prog 28 #[.slice A xs.length c, .string n] w fun e w' => ∃ v : Value, e = .returned v ∧ Kd.R k28 28 w' w.heap.size (fun _ => True) v (xs.filter fun x => !sameName x.f0 n) ∧ Below w.heap.size w w' := by
  have hmf : ∀ (fn : Fn) (first cap : Array Value) (w : World), (Instr.makeFunc fn first cap).run Try.prog w = .ok (.func fn first cap) w := fun _ _ _ _ => rfl
  have HR := Aside0.mk hr
  have HX := Aside0.mk hx
  clear hr hx
  go_enter Try.func28, Try.ntmps28
  go_wp2_with fail
  refine (named_any n _).mono ?_
  rintro e w1 ⟨rfl, hw1⟩
  have HB9 := Aside0.mk (show w1.heap[w.heap.size]? = some (.cells #[.string n] 9 (0, 0)) by rw [hw1]; simpa using heap_alloc_new w (.cells #[.string n] 9))
  have HW1 := Aside0.mk (show Below w.heap.size w w1 by rw [hw1]; exact (Below.refl _ _).alloc (Nat.le_refl _) _)
  clear hw1
  have HB82 := Aside0.mk (show (w1.alloc (.cells #[.func (.func 79) #[] #[.pointer (some ⟨w.heap.size, 0, none⟩)]] 82)).heap[w1.heap.size]? = some (.cells #[.func (.func 79) #[] #[.pointer (some ⟨w.heap.size, 0, none⟩)]] 82 (0, 0)) by simpa using heap_alloc_new w1 (.cells #[.func (.func 79) #[] #[.pointer (some ⟨w.heap.size, 0, none⟩)]] 82))
  have HB9b := Aside0.mk (blk_alloc HB9.out (.cells #[.func (.func 79) #[] #[.pointer (some ⟨w.heap.size, 0, none⟩)]] 82))
  have HW2 := Aside0.mk (HW1.out.alloc HW1.out.size (.cells #[.func (.func 79) #[] #[.pointer (some ⟨w.heap.size, 0, none⟩)]] 82))
  go_wp2_with fail
  refine (selected_59 w1.heap.size (fun x => !sameName x.f0 n) A c xs _ (Kd.C_below HR.out HW2.out) hc hN (fun x hx w2 h2 => without1_any _ w.heap.size n x w2 (blk_below HB82.out h2) (blk_below HB9b.out h2) hn (HX.out x hx))).mono ?_
  rintro e w3 ⟨v, rfl, hv, h3⟩
  go_wp2
  go_ret
  exact ⟨v, rfl, Kd.R_lower hv HW2.out.size, HW2.out.trans (h3.mono HW2.out.size)⟩

/-! ### Unknown -/
end Go.Proofs.Ytfeciafdioepiaa
