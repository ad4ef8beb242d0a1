/- The contracts of utf8's classes, sizeOf, begins, first over this translation.; The contracts of utf8's begins, first over this translation.; The contract of utf8's first over this translation.; The contract of utf8's Encode at a code point, over this translation.; A law for a loop over an iterator, at the wide fence: the iterator says how it m; The contracts of utf8's Check, Valid, Runes over this translation.; The iterator of utf8's Runes over this translation, for whatever loop. -/
import Derived.Test.YtfeciafdioepiaaDoorHL1
import Derived.Great.BuildSlice
import Derived.Deep.WholeRow
import Derived.Test.YtfeciafdioepiaaDoorHL0
import Derived.RangeFuncFrom
import Derived.RangeFuncCalls
import Derived.Shelf.Abstract
import Derived.Shelf.RegionOpen
import Derived.WalkKit
import Derived.OwnWalkIn
import Derived.TacticsInMore
import Derived.LoopNIn
import Derived.LoopIn
set_option linter.unusedVariables false
set_option linter.unusedSimpArgs false
namespace Go.Proofs.YtfeciafdioepiaaDoor
open Go.RowKit Go.Proofs Go.Proofs.YtfeciafdioepiaaDoorW.PrintWords Go.Proofs.YtfeciafdioepiaaDoor.PA

/-- How many bytes an encoding has that begins with a byte. -/
def sizeU (c : UInt8) : Nat := if c ≤ 127 then 1 else if 194 ≤ c ∧ c ≤ 223 then 2 else if 224 ≤ c ∧ c ≤ 239 then 3 else if 240 ≤ c ∧ c ≤ 244 then 4 else 0
theorem results_cell {P : Program} {fn : Func} {p : Tmp} {ty : TypeId} (h : fn.results = #[.cell p ty]) {tmps : Array Value} {w : World} {ad : Addr} {v : Value} (hp : tmps.getD p undef = .pointer (some ad)) (hl : (loadVar ty ad).run P w = .ok v w) :
    (results fn tmps).run P w = .ok v w := by
  rw [Array.getD_eq_getD_getElem?] at hp
  simp only [results, h]
  simp [Sem.run_bind, Result.andThen, hp, asAddr, hl]
def clsCells : Array Value := #[.int .u8 0, .int .u8 127, .int .u8 127, .int .i32 0, .int .i32 127, .int .u8 194, .int .u8 223, .int .u8 31, .int .i32 128, .int .i32 2047, .int .u8 224, .int .u8 239, .int .u8 15, .int .i32 2048, .int .i32 65535, .int .u8 240, .int .u8 244, .int .u8 7, .int .i32 65536, .int .i32 1114111]
def clsZero : Array Value := #[.int .u8 0, .int .u8 0, .int .u8 0, .int .i32 0, .int .i32 0, .int .u8 0, .int .u8 0, .int .u8 0, .int .i32 0, .int .i32 0, .int .u8 0, .int .u8 0, .int .u8 0, .int .i32 0, .int .i32 0, .int .u8 0, .int .u8 0, .int .u8 0, .int .i32 0, .int .i32 0]

set_option maxHeartbeats 1000000 in
set_option maxRecDepth 100000 in
theorem classes_any (w : World) : Calls Tryd.prog 103 #[] w fun e w' => e = .returned (.agg clsCells) ∧ Below w.heap.size w w' := by
  go_enter Tryd.func103, Tryd.ntmps103
  go_wp2_with (first
    | refine wpList_buildTo rfl 128 _ rfl _ rfl #[.int .u8 0, .int .u8 127, .int .u8 127, .int .i32 0, .int .i32 127] (by as_aux_lemma => kernel_rfl) ?_
    | refine wpList_buildTo rfl 128 _ rfl _ rfl #[.int .u8 194, .int .u8 223, .int .u8 31, .int .i32 128, .int .i32 2047] (by as_aux_lemma => kernel_rfl) ?_
    | refine wpList_buildTo rfl 128 _ rfl _ rfl #[.int .u8 224, .int .u8 239, .int .u8 15, .int .i32 2048, .int .i32 65535] (by as_aux_lemma => kernel_rfl) ?_
    | refine wpList_buildTo rfl 128 _ rfl _ rfl #[.int .u8 240, .int .u8 244, .int .u8 7, .int .i32 65536, .int .i32 1114111] (by as_aux_lemma => kernel_rfl) ?_
    | refine wpList_buildTo rfl 129 _ rfl _ rfl clsCells (by as_aux_lemma => kernel_rfl) ?_
    | refine wpList_store_rowTo rfl 129 _ _ rfl rfl w.heap.size clsCells rfl rfl 129 clsZero ?hg ?hi ?hold ?h1 ?_)
  case hg => exact heap_alloc_last w _
  case hi => exact (by as_aux_lemma => kernel_rfl)
  case hold => rfl
  case h1 => exact (by as_aux_lemma => kernel_rfl)
  rw [World.setRow_alloc_new]
  refine bodyPost_ret (v := .agg clsCells) ?_ rfl ⟨rfl, (Below.refl _ _).alloc (Nat.le_refl _) _⟩
  exact results_cell Tryd.results103 rfl (run_loadVar_new w 129 clsCells 4 128 Tryd.underlying129 (by as_aux_lemma => kernel_rfl))

theorem sizeU_eq (c : UInt8) : sizeU c = if c.toNat ≤ 127 then 1 else if 194 ≤ c.toNat ∧ c.toNat ≤ 223 then 2 else if 224 ≤ c.toNat ∧ c.toNat ≤ 239 then 3 else if 240 ≤ c.toNat ∧ c.toNat ≤ 244 then 4 else 0 := by
  unfold sizeU
  simp only [UInt8.le_iff_toNat_le]
  rfl
theorem sizeU_of (c : UInt8) : (sizeU c = 0 ∨ sizeU c = 1 ∧ c.toNat ≤ 127 ∨ sizeU c = 2 ∧ 194 ≤ c.toNat ∧ c.toNat ≤ 223 ∨ sizeU c = 3 ∧ 224 ≤ c.toNat ∧ c.toNat ≤ 239 ∨ sizeU c = 4 ∧ 240 ≤ c.toNat ∧ c.toNat ≤ 244) ∧
    (sizeU c = 0 → 128 ≤ c.toNat ∧ (c.toNat < 194 ∨ 244 < c.toNat)) := by
  have h := sizeU_eq c
  by_cases h1 : c.toNat ≤ 127
  · rw [if_pos h1] at h; omega
  · rw [if_neg h1] at h
    by_cases h2 : 194 ≤ c.toNat ∧ c.toNat ≤ 223
    · rw [if_pos h2] at h; omega
    · rw [if_neg h2] at h
      by_cases h3 : 224 ≤ c.toNat ∧ c.toNat ≤ 239
      · rw [if_pos h3] at h; omega
      · rw [if_neg h3] at h
        by_cases h4 : 240 ≤ c.toNat ∧ c.toNat ≤ 244
        · rw [if_pos h4] at h; omega
        · rw [if_neg h4] at h; omega
theorem cls_at0 (w : World) : (Instr.index 129 (.agg clsCells) (.int .i64 0)).run Tryd.prog w = .ok (.agg #[.int .u8 0, .int .u8 127, .int .u8 127, .int .i32 0, .int .i32 127]) w := by
  simp [Instr.index, run_underlying Tryd.underlying129, asIntOf, go_sem, Tryd.sizeOf128]
  rfl
theorem cls_at1 (w : World) : (Instr.index 129 (.agg clsCells) (.int .i64 1)).run Tryd.prog w = .ok (.agg #[.int .u8 194, .int .u8 223, .int .u8 31, .int .i32 128, .int .i32 2047]) w := by
  simp [Instr.index, run_underlying Tryd.underlying129, asIntOf, go_sem, Tryd.sizeOf128]
  rfl
theorem cls_at2 (w : World) : (Instr.index 129 (.agg clsCells) (.int .i64 2)).run Tryd.prog w = .ok (.agg #[.int .u8 224, .int .u8 239, .int .u8 15, .int .i32 2048, .int .i32 65535]) w := by
  simp [Instr.index, run_underlying Tryd.underlying129, asIntOf, go_sem, Tryd.sizeOf128]
  rfl
theorem cls_at3 (w : World) : (Instr.index 129 (.agg clsCells) (.int .i64 3)).run Tryd.prog w = .ok (.agg #[.int .u8 240, .int .u8 244, .int .u8 7, .int .i32 65536, .int .i32 1114111]) w := by
  simp [Instr.index, run_underlying Tryd.underlying129, asIntOf, go_sem, Tryd.sizeOf128]
  rfl
set_option maxHeartbeats 1000000 in
set_option maxRecDepth 100000 in
theorem sizeOf_any (c : UInt8) (w : World) : Calls Tryd.prog 101 #[.int .u8 c.toNat] w fun e w' => e = .returned (.int .i64 (sizeU c)) ∧ Below w.heap.size w w' := by
  have hlt : c.toNat < 256 := c.toNat_lt
  have hs := sizeU_of c
  have Hs := Lib.hid hs
  clear hs
  have i0 := cls_at0
  have i1 := cls_at1
  have i2 := cls_at2
  have i3 := cls_at3
  go_enter Tryd.func101, Tryd.ntmps101
  go_wp2_with (go_at_call 103; refine (classes_any _).mono ?_; rintro e w1 ⟨rfl, hb⟩)
  have HB := Aside0.mk hb
  clear hb
  go_loopw [6] (fun v6 wr => ∃ k : Nat, k ≤ 4 ∧ v6 = .int .i64 k ∧ Aside0 (sizeU c = 0 ∨ k < sizeU c) ∧ Aside0 (Below w.heap.size w wr)) (fun v6 _ => 4 - (intOf v6).toNat)
  case atStart => exact ⟨0, by omega, rfl, ⟨by omega⟩, ⟨HB.out⟩⟩
  case round =>
    obtain ⟨k, hk, rfl, HS, HW⟩ := hrel
    have hk5 : k = 0 ∨ k = 1 ∨ k = 2 ∨ k = 3 ∨ k = 4 := by omega
    rcases hk5 with rfl | rfl | rfl | rfl | rfl
    · have h1' : decide ((0 : Int) ≤ (c.toNat : Int)) = true := decide_eq_true (by omega)
      rcases Nat.lt_or_ge 127 c.toNat with h2 | h2
      · have h2' : decide ((c.toNat : Int) ≤ 127) = false := decide_eq_false (by omega)
        go_wp2
        go_roundw
        case rel => exact ⟨1, by omega, rfl, ⟨by have := Hs.out; have := HS.out; omega⟩, ⟨HW.out.alloc HW.out.size _⟩⟩
        case measure => simp [intOf]
      · have h2' : decide ((c.toNat : Int) ≤ 127) = true := decide_eq_true (by omega)
        go_wp2
        go_ret
        have hz : sizeU c = 1 := by have := Hs.out; have := HS.out; omega
        exact ⟨by rw [hz]; rfl, HW.out.alloc HW.out.size _⟩
    · rcases Nat.lt_or_ge c.toNat 194 with h1 | h1
      · have h1' : decide ((194 : Int) ≤ (c.toNat : Int)) = false := decide_eq_false (by omega)
        go_wp2
        go_roundw
        case rel => exact ⟨2, by omega, rfl, ⟨by have := Hs.out; have := HS.out; omega⟩, ⟨HW.out.alloc HW.out.size _⟩⟩
        case measure => simp [intOf]
      have h1' : decide ((194 : Int) ≤ (c.toNat : Int)) = true := decide_eq_true (by omega)
      rcases Nat.lt_or_ge 223 c.toNat with h2 | h2
      · have h2' : decide ((c.toNat : Int) ≤ 223) = false := decide_eq_false (by omega)
        go_wp2
        go_roundw
        case rel => exact ⟨2, by omega, rfl, ⟨by have := Hs.out; have := HS.out; omega⟩, ⟨HW.out.alloc HW.out.size _⟩⟩
        case measure => simp [intOf]
      · have h2' : decide ((c.toNat : Int) ≤ 223) = true := decide_eq_true (by omega)
        go_wp2
        go_ret
        have hz : sizeU c = 2 := by have := Hs.out; have := HS.out; omega
        exact ⟨by rw [hz]; rfl, HW.out.alloc HW.out.size _⟩
    · rcases Nat.lt_or_ge c.toNat 224 with h1 | h1
      · have h1' : decide ((224 : Int) ≤ (c.toNat : Int)) = false := decide_eq_false (by omega)
        go_wp2
        go_roundw
        case rel => exact ⟨3, by omega, rfl, ⟨by have := Hs.out; have := HS.out; omega⟩, ⟨HW.out.alloc HW.out.size _⟩⟩
        case measure => simp [intOf]
      have h1' : decide ((224 : Int) ≤ (c.toNat : Int)) = true := decide_eq_true (by omega)
      rcases Nat.lt_or_ge 239 c.toNat with h2 | h2
      · have h2' : decide ((c.toNat : Int) ≤ 239) = false := decide_eq_false (by omega)
        go_wp2
        go_roundw
        case rel => exact ⟨3, by omega, rfl, ⟨by have := Hs.out; have := HS.out; omega⟩, ⟨HW.out.alloc HW.out.size _⟩⟩
        case measure => simp [intOf]
      · have h2' : decide ((c.toNat : Int) ≤ 239) = true := decide_eq_true (by omega)
        go_wp2
        go_ret
        have hz : sizeU c = 3 := by have := Hs.out; have := HS.out; omega
        exact ⟨by rw [hz]; rfl, HW.out.alloc HW.out.size _⟩
    · rcases Nat.lt_or_ge c.toNat 240 with h1 | h1
      · have h1' : decide ((240 : Int) ≤ (c.toNat : Int)) = false := decide_eq_false (by omega)
        go_wp2
        go_roundw
        case rel => exact ⟨4, by omega, rfl, ⟨by have := Hs.out; have := HS.out; omega⟩, ⟨HW.out.alloc HW.out.size _⟩⟩
        case measure => simp [intOf]
      have h1' : decide ((240 : Int) ≤ (c.toNat : Int)) = true := decide_eq_true (by omega)
      rcases Nat.lt_or_ge 244 c.toNat with h2 | h2
      · have h2' : decide ((c.toNat : Int) ≤ 244) = false := decide_eq_false (by omega)
        go_wp2
        go_roundw
        case rel => exact ⟨4, by omega, rfl, ⟨by have := Hs.out; have := HS.out; omega⟩, ⟨HW.out.alloc HW.out.size _⟩⟩
        case measure => simp [intOf]
      · have h2' : decide ((c.toNat : Int) ≤ 244) = true := decide_eq_true (by omega)
        go_wp2
        go_ret
        have hz : sizeU c = 4 := by have := Hs.out; have := HS.out; omega
        exact ⟨by rw [hz]; rfl, HW.out.alloc HW.out.size _⟩
    · go_wp2
      go_ret
      have hz : sizeU c = 0 := by have := Hs.out; have := HS.out; omega
      exact ⟨by rw [hz]; rfl, HW.out⟩
end Go.Proofs.YtfeciafdioepiaaDoor
set_option linter.unusedVariables false
set_option linter.unusedSimpArgs false
namespace Go.Proofs.YtfeciafdioepiaaDoor
open Go.RowKit Go.Proofs Go.Proofs.YtfeciafdioepiaaDoorW.PrintWords Go.Proofs.YtfeciafdioepiaaDoorW.PrintMore Go.Proofs.YtfeciafdioepiaaDoor.PA
attribute [local go_sem] max2_int min2_int max_two min_two

/-- The number that the bytes of an encoding spell; m: what the first byte's bits go up to. -/
def valL (m : Nat) : List UInt8 → Nat
  | [] => 0
  | c :: l => l.foldl (fun v b => v * 64 + b.toNat % 64) (c.toNat % m)
theorem valL_snoc (m : Nat) (l : List UInt8) (b : UInt8) (h : l ≠ []) : valL m (l ++ [b]) = valL m l * 64 + b.toNat % 64 := by
  cases l with
  | nil => exact absurd rfl h
  | cons c l => show (l ++ [b]).foldl _ _ = _; rw [List.foldl_append]; rfl
def isCont (b : UInt8) : Bool := decide (b.toNat / 64 = 2)
def modU : Nat → Nat | 1 => 128 | 2 => 32 | 3 => 16 | _ => 8
def minU : Nat → Nat | 1 => 0 | 2 => 128 | 3 => 2048 | _ => 65536
def maxU : Nat → Nat | 1 => 127 | 2 => 2047 | 3 => 65535 | _ => 1114111
/-- A number is a code point of a class. -/
def okVal (n v : Nat) : Bool := decide (minU n ≤ v) && decide (v ≤ maxU n) && !(decide (55296 ≤ v) && decide (v ≤ 57343))
def okAll (n : Nat) (l : List UInt8) : Bool := (l.drop 1).all isCont && okVal n (valL (modU n) l)
def bnd : Nat → Nat | 1 => 128 | 2 => 8192 | 3 => 524288 | _ => 33554432
/-- What begins answers. -/
def BegPost (n : Nat) (s : ByteArray) (e : Ending) : Prop := ∃ b : Bool, e = .returned (.tuple #[.int .i64 n, .bool b]) ∧ (s.size = n → b = okAll n s.data.toList)
/-- What is known at the head of round k. -/
def BegInv (n : Nat) (s : ByteArray) (k lo hi : Nat) : Prop := k ≤ s.size → lo = valL (modU n) (s.data.toList.take k) ∧ hi = lo ∧ ((s.data.toList.take k).drop 1).all isCont = true

theorem and127 (c : UInt8) : bits BinOp.and IntKind.u8 (c.toNat : Int) 127 = (c.toNat : Int) % 128 := by
  refine all_u8 (P := fun c => bits BinOp.and IntKind.u8 (c.toNat : Int) 127 = (c.toNat : Int) % 128) ?_ c
  decide +kernel
theorem valL_one (n : Nat) (s : ByteArray) (h0 : 0 < s.size) : valL (modU n) (s.data.toList.take 1) = (s[0]).toNat % modU n := by
  have h : 0 < s.data.toList.length := by simpa using h0
  have e := List.take_succ_eq_append_getElem h
  rw [List.take_zero, List.nil_append] at e
  rw [e]
  have hg : s.data.toList[0] = s[0] := by rw [Array.getElem_toList]; rfl
  rw [hg]; rfl
theorem BegInv.step {n k lo hi : Nat} {s : ByteArray} (h : BegInv n s k lo hi) (hk : 1 ≤ k) (hs : k < s.size) :
    (s[k].toNat / 64 = 2 → BegInv n s (k + 1) (lo * 64 + s[k].toNat % 64) (hi * 64 + s[k].toNat % 64)) ∧ (¬ s[k].toNat / 64 = 2 → s.size = n → okAll n s.data.toList = false) := by
  have hl : k < s.data.toList.length := by simpa using hs
  have hg : s.data.toList[k] = s[k] := by rw [Array.getElem_toList]; rfl
  obtain ⟨h1, h2, h3⟩ := h (by omega)
  have e := List.take_succ_eq_append_getElem hl
  rw [hg] at e
  constructor
  · intro hc _
    rw [e]
    refine ⟨?_, by rw [h2], ?_⟩
    · rw [valL_snoc _ _ _ (by intro h0; have := congrArg List.length h0; rw [List.length_take, List.length_nil] at this; omega), h1]
    · rw [List.drop_append_of_le_length (by rw [List.length_take]; omega), List.all_append, h3]
      simp [isCont, hc]
  · intro hc _
    unfold okAll
    have : (s.data.toList.drop 1).all isCont = false := by
      rw [List.all_eq_false]
      refine ⟨s[k], ?_, by simp [isCont, hc]⟩
      rw [← hg, List.mem_iff_getElem]
      refine ⟨k - 1, by rw [List.length_drop]; omega, ?_⟩
      rw [List.getElem_drop]
      congr 1; omega
    rw [this]; rfl
theorem BegInv.fin {n lo hi : Nat} {s : ByteArray} (h : BegInv n s n lo hi) (hs : s.size = n) : okAll n s.data.toList = okVal n lo ∧ hi = lo := by
  obtain ⟨h1, h2, h3⟩ := h (by omega)
  have e : s.data.toList.take n = s.data.toList := List.take_of_length_le (by simp; omega)
  rw [e] at h1 h3
  unfold okAll
  rw [h3, h1]; exact ⟨rfl, h2.trans h1⟩
theorem cell_new_at (w : World) (cs : Array Value) (T n j : Nat) {v : Value} (h : cs[j]? = some v) : ((w.alloc (.cells cs T)).drewN n).cell? ⟨w.heap.size, j, none⟩ = some v := by
  have := cell_of_row (w.alloc (.cells cs T)) w.heap.size j cs T (0, 0) (heap_alloc_last w _)
  exact this.trans h

set_option maxHeartbeats 2000000 in
set_option maxRecDepth 100000 in
theorem begins_1 (s : ByteArray) (w : World) (h0 : 0 < s.size) (hn : sizeU s[0] = 1) (hsz : s.size ≤ 1) : Calls Tryd.prog 102 #[.string s] w fun e w' => BegPost 1 s e ∧ Below w.heap.size w w' := by
  have i1 := cls_at0
  have hv0 := valL_one 1 s h0
  have hv0 : valL (modU 1) (s.data.toList.take 1) = (s[0]).toNat % 128 := hv0
  generalize hc : s[0] = c at *
  have Hc := Lib.hid hc
  have Hn := Lib.hid hn
  have Hv0 := Lib.hid hv0
  clear hv0
  have hb31 : bits BinOp.and IntKind.u8 (c.toNat : Int) 127 = ((c.toNat % 128 : Nat) : Int) := by have := c.toNat_lt; rw [and127 c]; omega
  have hl0 : c.toNat % 128 < 128 := by omega
  generalize hq : c.toNat % 128 = q0 at *
  have Hq := Lib.hid hq
  have hw32 : wrap32 (q0 : Int) = q0 := by unfold wrap32; omega
  have h20 : decide ((s.size : Int) > 1) = false := decide_eq_false (by omega)
  clear hn hq
  go_enter Tryd.func102, Tryd.ntmps102
  go_wp2_with (first | (go_at_call 101; refine (sizeOf_any c _).mono ?_; rw [Hn.out]; rintro e w1 ⟨rfl, hb⟩; have HB := Aside0.mk hb; clear hb) | (go_at_call 103; refine (classes_any _).mono ?_; rintro e w2 ⟨rfl, hb2⟩; have HB2 := Aside0.mk hb2; clear hb2))
  go_quiet (fail)
  go_wp2
  go_loopw [6, 7, 8] (fun v6 v7 v8 wr => ∃ k lo hi : Nat, 1 ≤ k ∧ k ≤ 1 ∧ v8 = .int .i64 k ∧ v6 = .int .i32 lo ∧ v7 = .int .i32 hi ∧ lo < bnd k ∧ hi < bnd k ∧ Aside0 (BegInv 1 s k lo hi) ∧ Aside0 (Below w.heap.size w wr) ∧ wr.cell? ⟨w2.heap.size, 3, none⟩ = some (.int .i32 0) ∧ wr.cell? ⟨w2.heap.size, 4, none⟩ = some (.int .i32 127)) (fun _ _ v8 _ => 1 - (intOf v8).toNat)
  case atStart =>
    refine ⟨1, q0, q0, by omega, by omega, rfl, rfl, rfl, by show q0 < 128; omega, by show q0 < 128; omega, ⟨fun _ => ⟨Hv0.out.symm, rfl, by rw [List.drop_eq_nil_of_le (List.length_take_le _ _)]; rfl⟩⟩, ⟨pw_below_drewN (((HB.out.trans (HB2.out.mono HB.out.size)).alloc (Nat.le_trans HB.out.size HB2.out.size) _)) _⟩, ?_, ?_⟩
    · exact cell_new_at _ _ _ _ _ rfl
    · exact cell_new_at _ _ _ _ _ rfl
  case round =>
    obtain ⟨k, lo, hi, hk1, hk2, rfl, rfl, rfl, hlo, hhi, HI, HW, hc3, hc4⟩ := hrel
    have hk5 : k = 1 := by omega
    rcases hk5 with rfl
    · simp only [bnd] at hlo hhi
      have hend := BegInv.fin (n := 1) (s := s) (lo := lo) (hi := hi) HI.out
      have Hend := Lib.hid hend
      clear hend
      rcases Nat.lt_or_ge lo 0 with hl | hl <;> rcases Nat.lt_or_ge 127 hi with hg | hg
      · have hl' : (lo : Int) < 0 := by omega
        have hg' : (127 : Int) < (hi : Int) := by omega
        go_wp2
        go_quiet (fail)
        go_wp2
        all_goals go_ret2
        all_goals exact ⟨⟨_, rfl, fun he => by rw [(Hend.out he).1]; have hh := (Hend.out he).2; rw [Bool.eq_iff_iff]; simp only [okVal, minU, maxU, Bool.and_eq_true, decide_eq_true_iff, Bool.not_eq_true', Bool.and_eq_false_iff, decide_eq_false_iff_not, Bool.false_eq_true, false_iff]; omega⟩, pw_below_drewN HW.out _⟩
      · have hl' : (lo : Int) < 0 := by omega
        have hg' : ¬ (127 : Int) < (hi : Int) := by omega
        go_wp2
        go_quiet (fail)
        go_wp2
        all_goals go_ret2
        all_goals exact ⟨⟨_, rfl, fun he => by rw [(Hend.out he).1]; have hh := (Hend.out he).2; rw [Bool.eq_iff_iff]; simp only [okVal, minU, maxU, Bool.and_eq_true, decide_eq_true_iff, Bool.not_eq_true', Bool.and_eq_false_iff, decide_eq_false_iff_not, Bool.false_eq_true, false_iff]; omega⟩, pw_below_drewN HW.out _⟩
      · have hl' : ¬ (lo : Int) < 0 := by omega
        have hg' : (127 : Int) < (hi : Int) := by omega
        go_wp2
        go_quiet (fail)
        go_wp2
        all_goals go_ret2
        all_goals exact ⟨⟨_, rfl, fun he => by rw [(Hend.out he).1]; have hh := (Hend.out he).2; rw [Bool.eq_iff_iff]; simp only [okVal, minU, maxU, Bool.and_eq_true, decide_eq_true_iff, Bool.not_eq_true', Bool.and_eq_false_iff, decide_eq_false_iff_not, Bool.false_eq_true, false_iff]; omega⟩, pw_below_drewN HW.out _⟩
      · have hl' : ¬ (lo : Int) < 0 := by omega
        have hg' : ¬ (127 : Int) < (hi : Int) := by omega
        go_wp2
        go_quiet (fail)
        go_wp2
        all_goals go_ret2
        all_goals exact ⟨⟨_, rfl, fun he => by rw [(Hend.out he).1]; have hh := (Hend.out he).2; rw [Bool.eq_iff_iff]; simp only [okVal, minU, maxU, Bool.and_eq_true, decide_eq_true_iff, Bool.not_eq_true', Bool.and_eq_false_iff, decide_eq_false_iff_not, Bool.false_eq_true, false_iff]; omega⟩, pw_below_drewN HW.out _⟩

set_option maxHeartbeats 2000000 in
set_option maxRecDepth 100000 in
theorem begins_2 (s : ByteArray) (w : World) (h0 : 0 < s.size) (hn : sizeU s[0] = 2) (hsz : s.size ≤ 2) : Calls Tryd.prog 102 #[.string s] w fun e w' => BegPost 2 s e ∧ Below w.heap.size w w' := by
  have i1 := cls_at1
  have hv0 := valL_one 2 s h0
  have hv0 : valL (modU 2) (s.data.toList.take 1) = (s[0]).toNat % 32 := hv0
  generalize hc : s[0] = c at *
  have Hc := Lib.hid hc
  have Hn := Lib.hid hn
  have Hv0 := Lib.hid hv0
  clear hv0
  have hb31 : bits BinOp.and IntKind.u8 (c.toNat : Int) 31 = ((c.toNat % 32 : Nat) : Int) := by have := c.toNat_lt; rw [u8_and31 _ (by omega) (by omega)]; omega
  have hl0 : c.toNat % 32 < 32 := by omega
  generalize hq : c.toNat % 32 = q0 at *
  have Hq := Lib.hid hq
  have hw32 : wrap32 (q0 : Int) = q0 := by unfold wrap32; omega
  have h20 : decide ((s.size : Int) > 2) = false := decide_eq_false (by omega)
  clear hn hq
  go_enter Tryd.func102, Tryd.ntmps102
  go_wp2_with (first | (go_at_call 101; refine (sizeOf_any c _).mono ?_; rw [Hn.out]; rintro e w1 ⟨rfl, hb⟩; have HB := Aside0.mk hb; clear hb) | (go_at_call 103; refine (classes_any _).mono ?_; rintro e w2 ⟨rfl, hb2⟩; have HB2 := Aside0.mk hb2; clear hb2))
  go_quiet (fail)
  go_wp2
  go_loopw [6, 7, 8] (fun v6 v7 v8 wr => ∃ k lo hi : Nat, 1 ≤ k ∧ k ≤ 2 ∧ v8 = .int .i64 k ∧ v6 = .int .i32 lo ∧ v7 = .int .i32 hi ∧ lo < bnd k ∧ hi < bnd k ∧ Aside0 (BegInv 2 s k lo hi) ∧ Aside0 (Below w.heap.size w wr) ∧ wr.cell? ⟨w2.heap.size, 3, none⟩ = some (.int .i32 128) ∧ wr.cell? ⟨w2.heap.size, 4, none⟩ = some (.int .i32 2047)) (fun _ _ v8 _ => 2 - (intOf v8).toNat)
  case atStart =>
    refine ⟨1, q0, q0, by omega, by omega, rfl, rfl, rfl, by show q0 < 128; omega, by show q0 < 128; omega, ⟨fun _ => ⟨Hv0.out.symm, rfl, by rw [List.drop_eq_nil_of_le (List.length_take_le _ _)]; rfl⟩⟩, ⟨pw_below_drewN (((HB.out.trans (HB2.out.mono HB.out.size)).alloc (Nat.le_trans HB.out.size HB2.out.size) _)) _⟩, ?_, ?_⟩
    · exact cell_new_at _ _ _ _ _ rfl
    · exact cell_new_at _ _ _ _ _ rfl
  case round =>
    obtain ⟨k, lo, hi, hk1, hk2, rfl, rfl, rfl, hlo, hhi, HI, HW, hc3, hc4⟩ := hrel
    have hk5 : k = 1 ∨ k = 2 := by omega
    rcases hk5 with rfl | rfl
    · simp only [bnd] at hlo hhi
      by_cases hks : 1 < s.size
      · have hks' : decide ((s.size : Int) ≤ 1) = false := decide_eq_false (by omega)
        have hst := BegInv.step (n := 2) (k := 1) (s := s) (lo := lo) (hi := hi) HI.out (by omega) hks
        generalize hd : s[1] = d at *
        have Hst := Lib.hid hst
        clear hst
        have hd256 := d.toNat_lt
        have hb63 : bits BinOp.and IntKind.u8 (d.toNat : Int) 63 = ((d.toNat % 64 : Nat) : Int) := by rw [u8_and63 _ (by omega) (by omega)]; omega
        have hl64 : d.toNat % 64 < 64 := by omega
        generalize hr : d.toNat % 64 = r at *
        have Hr := Lib.hid hr
        clear hr
        rcases Decidable.em (d.toNat / 64 = 2) with hct | hct
        · have hct' : (((d.toNat : Int) / 64) != 2) = false := by rw [bne_eq_false_iff_eq]; omega
          go_wp2
          go_quiet (fail)
          go_wp2
          go_roundw
          case rel => exact ⟨2, lo * 64 + r, hi * 64 + r, by omega, by omega, rfl, by go_num, by go_num, by show _ < 8192; omega, by show _ < 8192; omega, ⟨Hst.out.1 hct⟩, ⟨pw_below_drewN HW.out _⟩, hc3, hc4⟩
          case measure => simp [intOf]
        · have hct' : (((d.toNat : Int) / 64) != 2) = true := by rw [bne_iff_ne]; omega
          go_wp2
          go_ret2
          exact ⟨⟨false, rfl, fun he => (Hst.out.2 hct he).symm⟩, HW.out⟩
      · have hks' : decide ((s.size : Int) ≤ 1) = true := decide_eq_true (by omega)
        go_wp2
        go_roundw
        case rel => exact ⟨2, lo * 64, hi * 64 + 63, by omega, by omega, rfl, by go_num, by go_num, by show _ < 8192; omega, by show _ < 8192; omega, ⟨fun h => absurd h (by omega)⟩, ⟨HW.out⟩, hc3, hc4⟩
        case measure => simp [intOf]
    · simp only [bnd] at hlo hhi
      have hend := BegInv.fin (n := 2) (s := s) (lo := lo) (hi := hi) HI.out
      have Hend := Lib.hid hend
      clear hend
      rcases Nat.lt_or_ge lo 128 with hl | hl <;> rcases Nat.lt_or_ge 2047 hi with hg | hg
      · have hl' : (lo : Int) < 128 := by omega
        have hg' : (2047 : Int) < (hi : Int) := by omega
        go_wp2
        go_quiet (fail)
        go_wp2
        all_goals go_ret2
        all_goals exact ⟨⟨_, rfl, fun he => by rw [(Hend.out he).1]; have hh := (Hend.out he).2; rw [Bool.eq_iff_iff]; simp only [okVal, minU, maxU, Bool.and_eq_true, decide_eq_true_iff, Bool.not_eq_true', Bool.and_eq_false_iff, decide_eq_false_iff_not, Bool.false_eq_true, false_iff]; omega⟩, pw_below_drewN HW.out _⟩
      · have hl' : (lo : Int) < 128 := by omega
        have hg' : ¬ (2047 : Int) < (hi : Int) := by omega
        go_wp2
        go_quiet (fail)
        go_wp2
        all_goals go_ret2
        all_goals exact ⟨⟨_, rfl, fun he => by rw [(Hend.out he).1]; have hh := (Hend.out he).2; rw [Bool.eq_iff_iff]; simp only [okVal, minU, maxU, Bool.and_eq_true, decide_eq_true_iff, Bool.not_eq_true', Bool.and_eq_false_iff, decide_eq_false_iff_not, Bool.false_eq_true, false_iff]; omega⟩, pw_below_drewN HW.out _⟩
      · have hl' : ¬ (lo : Int) < 128 := by omega
        have hg' : (2047 : Int) < (hi : Int) := by omega
        go_wp2
        go_quiet (fail)
        go_wp2
        all_goals go_ret2
        all_goals exact ⟨⟨_, rfl, fun he => by rw [(Hend.out he).1]; have hh := (Hend.out he).2; rw [Bool.eq_iff_iff]; simp only [okVal, minU, maxU, Bool.and_eq_true, decide_eq_true_iff, Bool.not_eq_true', Bool.and_eq_false_iff, decide_eq_false_iff_not, Bool.false_eq_true, false_iff]; omega⟩, pw_below_drewN HW.out _⟩
      · have hl' : ¬ (lo : Int) < 128 := by omega
        have hg' : ¬ (2047 : Int) < (hi : Int) := by omega
        go_wp2
        go_quiet (fail)
        go_wp2
        all_goals go_ret2
        all_goals exact ⟨⟨_, rfl, fun he => by rw [(Hend.out he).1]; have hh := (Hend.out he).2; rw [Bool.eq_iff_iff]; simp only [okVal, minU, maxU, Bool.and_eq_true, decide_eq_true_iff, Bool.not_eq_true', Bool.and_eq_false_iff, decide_eq_false_iff_not, Bool.false_eq_true, false_iff]; omega⟩, pw_below_drewN HW.out _⟩

set_option maxHeartbeats 2000000 in
set_option maxRecDepth 100000 in
theorem begins_3 (s : ByteArray) (w : World) (h0 : 0 < s.size) (hn : sizeU s[0] = 3) (hsz : s.size ≤ 3) : Calls Tryd.prog 102 #[.string s] w fun e w' => BegPost 3 s e ∧ Below w.heap.size w w' := by
  have i1 := cls_at2
  have hv0 := valL_one 3 s h0
  have hv0 : valL (modU 3) (s.data.toList.take 1) = (s[0]).toNat % 16 := hv0
  generalize hc : s[0] = c at *
  have Hc := Lib.hid hc
  have Hn := Lib.hid hn
  have Hv0 := Lib.hid hv0
  clear hv0
  have hb31 : bits BinOp.and IntKind.u8 (c.toNat : Int) 15 = ((c.toNat % 16 : Nat) : Int) := by have := c.toNat_lt; rw [u8_and15 _ (by omega) (by omega)]; omega
  have hl0 : c.toNat % 16 < 16 := by omega
  generalize hq : c.toNat % 16 = q0 at *
  have Hq := Lib.hid hq
  have hw32 : wrap32 (q0 : Int) = q0 := by unfold wrap32; omega
  have h20 : decide ((s.size : Int) > 3) = false := decide_eq_false (by omega)
  clear hn hq
  go_enter Tryd.func102, Tryd.ntmps102
  go_wp2_with (first | (go_at_call 101; refine (sizeOf_any c _).mono ?_; rw [Hn.out]; rintro e w1 ⟨rfl, hb⟩; have HB := Aside0.mk hb; clear hb) | (go_at_call 103; refine (classes_any _).mono ?_; rintro e w2 ⟨rfl, hb2⟩; have HB2 := Aside0.mk hb2; clear hb2))
  go_quiet (fail)
  go_wp2
  go_loopw [6, 7, 8] (fun v6 v7 v8 wr => ∃ k lo hi : Nat, 1 ≤ k ∧ k ≤ 3 ∧ v8 = .int .i64 k ∧ v6 = .int .i32 lo ∧ v7 = .int .i32 hi ∧ lo < bnd k ∧ hi < bnd k ∧ Aside0 (BegInv 3 s k lo hi) ∧ Aside0 (Below w.heap.size w wr) ∧ wr.cell? ⟨w2.heap.size, 3, none⟩ = some (.int .i32 2048) ∧ wr.cell? ⟨w2.heap.size, 4, none⟩ = some (.int .i32 65535)) (fun _ _ v8 _ => 3 - (intOf v8).toNat)
  case atStart =>
    refine ⟨1, q0, q0, by omega, by omega, rfl, rfl, rfl, by show q0 < 128; omega, by show q0 < 128; omega, ⟨fun _ => ⟨Hv0.out.symm, rfl, by rw [List.drop_eq_nil_of_le (List.length_take_le _ _)]; rfl⟩⟩, ⟨pw_below_drewN (((HB.out.trans (HB2.out.mono HB.out.size)).alloc (Nat.le_trans HB.out.size HB2.out.size) _)) _⟩, ?_, ?_⟩
    · exact cell_new_at _ _ _ _ _ rfl
    · exact cell_new_at _ _ _ _ _ rfl
  case round =>
    obtain ⟨k, lo, hi, hk1, hk2, rfl, rfl, rfl, hlo, hhi, HI, HW, hc3, hc4⟩ := hrel
    have hk5 : k = 1 ∨ k = 2 ∨ k = 3 := by omega
    rcases hk5 with rfl | rfl | rfl
    · simp only [bnd] at hlo hhi
      by_cases hks : 1 < s.size
      · have hks' : decide ((s.size : Int) ≤ 1) = false := decide_eq_false (by omega)
        have hst := BegInv.step (n := 3) (k := 1) (s := s) (lo := lo) (hi := hi) HI.out (by omega) hks
        generalize hd : s[1] = d at *
        have Hst := Lib.hid hst
        clear hst
        have hd256 := d.toNat_lt
        have hb63 : bits BinOp.and IntKind.u8 (d.toNat : Int) 63 = ((d.toNat % 64 : Nat) : Int) := by rw [u8_and63 _ (by omega) (by omega)]; omega
        have hl64 : d.toNat % 64 < 64 := by omega
        generalize hr : d.toNat % 64 = r at *
        have Hr := Lib.hid hr
        clear hr
        rcases Decidable.em (d.toNat / 64 = 2) with hct | hct
        · have hct' : (((d.toNat : Int) / 64) != 2) = false := by rw [bne_eq_false_iff_eq]; omega
          go_wp2
          go_quiet (fail)
          go_wp2
          go_roundw
          case rel => exact ⟨2, lo * 64 + r, hi * 64 + r, by omega, by omega, rfl, by go_num, by go_num, by show _ < 8192; omega, by show _ < 8192; omega, ⟨Hst.out.1 hct⟩, ⟨pw_below_drewN HW.out _⟩, hc3, hc4⟩
          case measure => simp [intOf]
        · have hct' : (((d.toNat : Int) / 64) != 2) = true := by rw [bne_iff_ne]; omega
          go_wp2
          go_ret2
          exact ⟨⟨false, rfl, fun he => (Hst.out.2 hct he).symm⟩, HW.out⟩
      · have hks' : decide ((s.size : Int) ≤ 1) = true := decide_eq_true (by omega)
        go_wp2
        go_roundw
        case rel => exact ⟨2, lo * 64, hi * 64 + 63, by omega, by omega, rfl, by go_num, by go_num, by show _ < 8192; omega, by show _ < 8192; omega, ⟨fun h => absurd h (by omega)⟩, ⟨HW.out⟩, hc3, hc4⟩
        case measure => simp [intOf]
    · simp only [bnd] at hlo hhi
      by_cases hks : 2 < s.size
      · have hks' : decide ((s.size : Int) ≤ 2) = false := decide_eq_false (by omega)
        have hst := BegInv.step (n := 3) (k := 2) (s := s) (lo := lo) (hi := hi) HI.out (by omega) hks
        generalize hd : s[2] = d at *
        have Hst := Lib.hid hst
        clear hst
        have hd256 := d.toNat_lt
        have hb63 : bits BinOp.and IntKind.u8 (d.toNat : Int) 63 = ((d.toNat % 64 : Nat) : Int) := by rw [u8_and63 _ (by omega) (by omega)]; omega
        have hl64 : d.toNat % 64 < 64 := by omega
        generalize hr : d.toNat % 64 = r at *
        have Hr := Lib.hid hr
        clear hr
        rcases Decidable.em (d.toNat / 64 = 2) with hct | hct
        · have hct' : (((d.toNat : Int) / 64) != 2) = false := by rw [bne_eq_false_iff_eq]; omega
          go_wp2
          go_quiet (fail)
          go_wp2
          go_roundw
          case rel => exact ⟨3, lo * 64 + r, hi * 64 + r, by omega, by omega, rfl, by go_num, by go_num, by show _ < 524288; omega, by show _ < 524288; omega, ⟨Hst.out.1 hct⟩, ⟨pw_below_drewN HW.out _⟩, hc3, hc4⟩
          case measure => simp [intOf]
        · have hct' : (((d.toNat : Int) / 64) != 2) = true := by rw [bne_iff_ne]; omega
          go_wp2
          go_ret2
          exact ⟨⟨false, rfl, fun he => (Hst.out.2 hct he).symm⟩, HW.out⟩
      · have hks' : decide ((s.size : Int) ≤ 2) = true := decide_eq_true (by omega)
        go_wp2
        go_roundw
        case rel => exact ⟨3, lo * 64, hi * 64 + 63, by omega, by omega, rfl, by go_num, by go_num, by show _ < 524288; omega, by show _ < 524288; omega, ⟨fun h => absurd h (by omega)⟩, ⟨HW.out⟩, hc3, hc4⟩
        case measure => simp [intOf]
    · simp only [bnd] at hlo hhi
      have hend := BegInv.fin (n := 3) (s := s) (lo := lo) (hi := hi) HI.out
      have Hend := Lib.hid hend
      clear hend
      rcases Nat.lt_or_ge lo 2048 with hl | hl <;> rcases Nat.lt_or_ge 65535 hi with hg | hg
      · have hl' : (lo : Int) < 2048 := by omega
        have hg' : (65535 : Int) < (hi : Int) := by omega
        go_wp2
        go_quiet (fail)
        go_wp2
        all_goals go_ret2
        all_goals exact ⟨⟨_, rfl, fun he => by rw [(Hend.out he).1]; have hh := (Hend.out he).2; rw [Bool.eq_iff_iff]; simp only [okVal, minU, maxU, Bool.and_eq_true, decide_eq_true_iff, Bool.not_eq_true', Bool.and_eq_false_iff, decide_eq_false_iff_not, Bool.false_eq_true, false_iff]; omega⟩, pw_below_drewN HW.out _⟩
      · have hl' : (lo : Int) < 2048 := by omega
        have hg' : ¬ (65535 : Int) < (hi : Int) := by omega
        go_wp2
        go_quiet (fail)
        go_wp2
        all_goals go_ret2
        all_goals exact ⟨⟨_, rfl, fun he => by rw [(Hend.out he).1]; have hh := (Hend.out he).2; rw [Bool.eq_iff_iff]; simp only [okVal, minU, maxU, Bool.and_eq_true, decide_eq_true_iff, Bool.not_eq_true', Bool.and_eq_false_iff, decide_eq_false_iff_not, Bool.false_eq_true, false_iff]; omega⟩, pw_below_drewN HW.out _⟩
      · have hl' : ¬ (lo : Int) < 2048 := by omega
        have hg' : (65535 : Int) < (hi : Int) := by omega
        go_wp2
        go_quiet (fail)
        go_wp2
        all_goals go_ret2
        all_goals exact ⟨⟨_, rfl, fun he => by rw [(Hend.out he).1]; have hh := (Hend.out he).2; rw [Bool.eq_iff_iff]; simp only [okVal, minU, maxU, Bool.and_eq_true, decide_eq_true_iff, Bool.not_eq_true', Bool.and_eq_false_iff, decide_eq_false_iff_not, Bool.false_eq_true, false_iff]; omega⟩, pw_below_drewN HW.out _⟩
      · have hl' : ¬ (lo : Int) < 2048 := by omega
        have hg' : ¬ (65535 : Int) < (hi : Int) := by omega
        go_wp2
        go_quiet (fail)
        go_wp2
        all_goals go_ret2
        all_goals exact ⟨⟨_, rfl, fun he => by rw [(Hend.out he).1]; have hh := (Hend.out he).2; rw [Bool.eq_iff_iff]; simp only [okVal, minU, maxU, Bool.and_eq_true, decide_eq_true_iff, Bool.not_eq_true', Bool.and_eq_false_iff, decide_eq_false_iff_not, Bool.false_eq_true, false_iff]; omega⟩, pw_below_drewN HW.out _⟩

set_option maxHeartbeats 2000000 in
set_option maxRecDepth 100000 in
theorem begins_4 (s : ByteArray) (w : World) (h0 : 0 < s.size) (hn : sizeU s[0] = 4) (hsz : s.size ≤ 4) : Calls Tryd.prog 102 #[.string s] w fun e w' => BegPost 4 s e ∧ Below w.heap.size w w' := by
  have i1 := cls_at3
  have hv0 := valL_one 4 s h0
  have hv0 : valL (modU 4) (s.data.toList.take 1) = (s[0]).toNat % 8 := hv0
  generalize hc : s[0] = c at *
  have Hc := Lib.hid hc
  have Hn := Lib.hid hn
  have Hv0 := Lib.hid hv0
  clear hv0
  have hb31 : bits BinOp.and IntKind.u8 (c.toNat : Int) 7 = ((c.toNat % 8 : Nat) : Int) := by have := c.toNat_lt; rw [u8_and7 _ (by omega) (by omega)]; omega
  have hl0 : c.toNat % 8 < 8 := by omega
  generalize hq : c.toNat % 8 = q0 at *
  have Hq := Lib.hid hq
  have hw32 : wrap32 (q0 : Int) = q0 := by unfold wrap32; omega
  have h20 : decide ((s.size : Int) > 4) = false := decide_eq_false (by omega)
  clear hn hq
  go_enter Tryd.func102, Tryd.ntmps102
  go_wp2_with (first | (go_at_call 101; refine (sizeOf_any c _).mono ?_; rw [Hn.out]; rintro e w1 ⟨rfl, hb⟩; have HB := Aside0.mk hb; clear hb) | (go_at_call 103; refine (classes_any _).mono ?_; rintro e w2 ⟨rfl, hb2⟩; have HB2 := Aside0.mk hb2; clear hb2))
  go_quiet (fail)
  go_wp2
  go_loopw [6, 7, 8] (fun v6 v7 v8 wr => ∃ k lo hi : Nat, 1 ≤ k ∧ k ≤ 4 ∧ v8 = .int .i64 k ∧ v6 = .int .i32 lo ∧ v7 = .int .i32 hi ∧ lo < bnd k ∧ hi < bnd k ∧ Aside0 (BegInv 4 s k lo hi) ∧ Aside0 (Below w.heap.size w wr) ∧ wr.cell? ⟨w2.heap.size, 3, none⟩ = some (.int .i32 65536) ∧ wr.cell? ⟨w2.heap.size, 4, none⟩ = some (.int .i32 1114111)) (fun _ _ v8 _ => 4 - (intOf v8).toNat)
  case atStart =>
    refine ⟨1, q0, q0, by omega, by omega, rfl, rfl, rfl, by show q0 < 128; omega, by show q0 < 128; omega, ⟨fun _ => ⟨Hv0.out.symm, rfl, by rw [List.drop_eq_nil_of_le (List.length_take_le _ _)]; rfl⟩⟩, ⟨pw_below_drewN (((HB.out.trans (HB2.out.mono HB.out.size)).alloc (Nat.le_trans HB.out.size HB2.out.size) _)) _⟩, ?_, ?_⟩
    · exact cell_new_at _ _ _ _ _ rfl
    · exact cell_new_at _ _ _ _ _ rfl
  case round =>
    obtain ⟨k, lo, hi, hk1, hk2, rfl, rfl, rfl, hlo, hhi, HI, HW, hc3, hc4⟩ := hrel
    have hk5 : k = 1 ∨ k = 2 ∨ k = 3 ∨ k = 4 := by omega
    rcases hk5 with rfl | rfl | rfl | rfl
    · simp only [bnd] at hlo hhi
      by_cases hks : 1 < s.size
      · have hks' : decide ((s.size : Int) ≤ 1) = false := decide_eq_false (by omega)
        have hst := BegInv.step (n := 4) (k := 1) (s := s) (lo := lo) (hi := hi) HI.out (by omega) hks
        generalize hd : s[1] = d at *
        have Hst := Lib.hid hst
        clear hst
        have hd256 := d.toNat_lt
        have hb63 : bits BinOp.and IntKind.u8 (d.toNat : Int) 63 = ((d.toNat % 64 : Nat) : Int) := by rw [u8_and63 _ (by omega) (by omega)]; omega
        have hl64 : d.toNat % 64 < 64 := by omega
        generalize hr : d.toNat % 64 = r at *
        have Hr := Lib.hid hr
        clear hr
        rcases Decidable.em (d.toNat / 64 = 2) with hct | hct
        · have hct' : (((d.toNat : Int) / 64) != 2) = false := by rw [bne_eq_false_iff_eq]; omega
          go_wp2
          go_quiet (fail)
          go_wp2
          go_roundw
          case rel => exact ⟨2, lo * 64 + r, hi * 64 + r, by omega, by omega, rfl, by go_num, by go_num, by show _ < 8192; omega, by show _ < 8192; omega, ⟨Hst.out.1 hct⟩, ⟨pw_below_drewN HW.out _⟩, hc3, hc4⟩
          case measure => simp [intOf]
        · have hct' : (((d.toNat : Int) / 64) != 2) = true := by rw [bne_iff_ne]; omega
          go_wp2
          go_ret2
          exact ⟨⟨false, rfl, fun he => (Hst.out.2 hct he).symm⟩, HW.out⟩
      · have hks' : decide ((s.size : Int) ≤ 1) = true := decide_eq_true (by omega)
        go_wp2
        go_roundw
        case rel => exact ⟨2, lo * 64, hi * 64 + 63, by omega, by omega, rfl, by go_num, by go_num, by show _ < 8192; omega, by show _ < 8192; omega, ⟨fun h => absurd h (by omega)⟩, ⟨HW.out⟩, hc3, hc4⟩
        case measure => simp [intOf]
    · simp only [bnd] at hlo hhi
      by_cases hks : 2 < s.size
      · have hks' : decide ((s.size : Int) ≤ 2) = false := decide_eq_false (by omega)
        have hst := BegInv.step (n := 4) (k := 2) (s := s) (lo := lo) (hi := hi) HI.out (by omega) hks
        generalize hd : s[2] = d at *
        have Hst := Lib.hid hst
        clear hst
        have hd256 := d.toNat_lt
        have hb63 : bits BinOp.and IntKind.u8 (d.toNat : Int) 63 = ((d.toNat % 64 : Nat) : Int) := by rw [u8_and63 _ (by omega) (by omega)]; omega
        have hl64 : d.toNat % 64 < 64 := by omega
        generalize hr : d.toNat % 64 = r at *
        have Hr := Lib.hid hr
        clear hr
        rcases Decidable.em (d.toNat / 64 = 2) with hct | hct
        · have hct' : (((d.toNat : Int) / 64) != 2) = false := by rw [bne_eq_false_iff_eq]; omega
          go_wp2
          go_quiet (fail)
          go_wp2
          go_roundw
          case rel => exact ⟨3, lo * 64 + r, hi * 64 + r, by omega, by omega, rfl, by go_num, by go_num, by show _ < 524288; omega, by show _ < 524288; omega, ⟨Hst.out.1 hct⟩, ⟨pw_below_drewN HW.out _⟩, hc3, hc4⟩
          case measure => simp [intOf]
        · have hct' : (((d.toNat : Int) / 64) != 2) = true := by rw [bne_iff_ne]; omega
          go_wp2
          go_ret2
          exact ⟨⟨false, rfl, fun he => (Hst.out.2 hct he).symm⟩, HW.out⟩
      · have hks' : decide ((s.size : Int) ≤ 2) = true := decide_eq_true (by omega)
        go_wp2
        go_roundw
        case rel => exact ⟨3, lo * 64, hi * 64 + 63, by omega, by omega, rfl, by go_num, by go_num, by show _ < 524288; omega, by show _ < 524288; omega, ⟨fun h => absurd h (by omega)⟩, ⟨HW.out⟩, hc3, hc4⟩
        case measure => simp [intOf]
    · simp only [bnd] at hlo hhi
      by_cases hks : 3 < s.size
      · have hks' : decide ((s.size : Int) ≤ 3) = false := decide_eq_false (by omega)
        have hst := BegInv.step (n := 4) (k := 3) (s := s) (lo := lo) (hi := hi) HI.out (by omega) hks
        generalize hd : s[3] = d at *
        have Hst := Lib.hid hst
        clear hst
        have hd256 := d.toNat_lt
        have hb63 : bits BinOp.and IntKind.u8 (d.toNat : Int) 63 = ((d.toNat % 64 : Nat) : Int) := by rw [u8_and63 _ (by omega) (by omega)]; omega
        have hl64 : d.toNat % 64 < 64 := by omega
        generalize hr : d.toNat % 64 = r at *
        have Hr := Lib.hid hr
        clear hr
        rcases Decidable.em (d.toNat / 64 = 2) with hct | hct
        · have hct' : (((d.toNat : Int) / 64) != 2) = false := by rw [bne_eq_false_iff_eq]; omega
          go_wp2
          go_quiet (fail)
          go_wp2
          go_roundw
          case rel => exact ⟨4, lo * 64 + r, hi * 64 + r, by omega, by omega, rfl, by go_num, by go_num, by show _ < 33554432; omega, by show _ < 33554432; omega, ⟨Hst.out.1 hct⟩, ⟨pw_below_drewN HW.out _⟩, hc3, hc4⟩
          case measure => simp [intOf]
        · have hct' : (((d.toNat : Int) / 64) != 2) = true := by rw [bne_iff_ne]; omega
          go_wp2
          go_ret2
          exact ⟨⟨false, rfl, fun he => (Hst.out.2 hct he).symm⟩, HW.out⟩
      · have hks' : decide ((s.size : Int) ≤ 3) = true := decide_eq_true (by omega)
        go_wp2
        go_roundw
        case rel => exact ⟨4, lo * 64, hi * 64 + 63, by omega, by omega, rfl, by go_num, by go_num, by show _ < 33554432; omega, by show _ < 33554432; omega, ⟨fun h => absurd h (by omega)⟩, ⟨HW.out⟩, hc3, hc4⟩
        case measure => simp [intOf]
    · simp only [bnd] at hlo hhi
      have hend := BegInv.fin (n := 4) (s := s) (lo := lo) (hi := hi) HI.out
      have Hend := Lib.hid hend
      clear hend
      rcases Nat.lt_or_ge lo 65536 with hl | hl <;> rcases Nat.lt_or_ge 1114111 hi with hg | hg
      · have hl' : (lo : Int) < 65536 := by omega
        have hg' : (1114111 : Int) < (hi : Int) := by omega
        obtain ⟨m, hm⟩ : ∃ m : Int, m = 65536 := ⟨_, rfl⟩
        obtain ⟨x, hx⟩ : ∃ x : Int, x = 1114111 := ⟨_, rfl⟩
        rw [← hm] at hc3 hl'
        rw [← hx] at hc4 hg'
        have hm1 : decide ((55296 : Int) ≤ m) = true := decide_eq_true (by omega)
        have hx1 : decide (x ≤ (57343 : Int)) = false := decide_eq_false (by omega)
        have Hm := Lib.hid hm
        have Hx := Lib.hid hx
        clear hm hx
        go_wp2
        go_quiet (fail)
        go_wp2
        all_goals go_ret2
        all_goals exact ⟨⟨_, rfl, fun he => by rw [(Hend.out he).1]; have hh := (Hend.out he).2; have hm := Hm.out; have hx := Hx.out; rw [Bool.eq_iff_iff]; simp only [okVal, minU, maxU, Bool.and_eq_true, decide_eq_true_iff, Bool.not_eq_true', Bool.and_eq_false_iff, decide_eq_false_iff_not, Bool.false_eq_true, false_iff]; omega⟩, pw_below_drewN HW.out _⟩
      · have hl' : (lo : Int) < 65536 := by omega
        have hg' : ¬ (1114111 : Int) < (hi : Int) := by omega
        obtain ⟨m, hm⟩ : ∃ m : Int, m = 65536 := ⟨_, rfl⟩
        obtain ⟨x, hx⟩ : ∃ x : Int, x = 1114111 := ⟨_, rfl⟩
        rw [← hm] at hc3 hl'
        rw [← hx] at hc4 hg'
        have hm1 : decide ((55296 : Int) ≤ m) = true := decide_eq_true (by omega)
        have hx1 : decide (x ≤ (57343 : Int)) = false := decide_eq_false (by omega)
        have Hm := Lib.hid hm
        have Hx := Lib.hid hx
        clear hm hx
        go_wp2
        go_quiet (fail)
        go_wp2
        all_goals go_ret2
        all_goals exact ⟨⟨_, rfl, fun he => by rw [(Hend.out he).1]; have hh := (Hend.out he).2; have hm := Hm.out; have hx := Hx.out; rw [Bool.eq_iff_iff]; simp only [okVal, minU, maxU, Bool.and_eq_true, decide_eq_true_iff, Bool.not_eq_true', Bool.and_eq_false_iff, decide_eq_false_iff_not, Bool.false_eq_true, false_iff]; omega⟩, pw_below_drewN HW.out _⟩
      · have hl' : ¬ (lo : Int) < 65536 := by omega
        have hg' : (1114111 : Int) < (hi : Int) := by omega
        obtain ⟨m, hm⟩ : ∃ m : Int, m = 65536 := ⟨_, rfl⟩
        obtain ⟨x, hx⟩ : ∃ x : Int, x = 1114111 := ⟨_, rfl⟩
        rw [← hm] at hc3 hl'
        rw [← hx] at hc4 hg'
        have hm1 : decide ((55296 : Int) ≤ m) = true := decide_eq_true (by omega)
        have hx1 : decide (x ≤ (57343 : Int)) = false := decide_eq_false (by omega)
        have Hm := Lib.hid hm
        have Hx := Lib.hid hx
        clear hm hx
        go_wp2
        go_quiet (fail)
        go_wp2
        all_goals go_ret2
        all_goals exact ⟨⟨_, rfl, fun he => by rw [(Hend.out he).1]; have hh := (Hend.out he).2; have hm := Hm.out; have hx := Hx.out; rw [Bool.eq_iff_iff]; simp only [okVal, minU, maxU, Bool.and_eq_true, decide_eq_true_iff, Bool.not_eq_true', Bool.and_eq_false_iff, decide_eq_false_iff_not, Bool.false_eq_true, false_iff]; omega⟩, pw_below_drewN HW.out _⟩
      · have hl' : ¬ (lo : Int) < 65536 := by omega
        have hg' : ¬ (1114111 : Int) < (hi : Int) := by omega
        obtain ⟨m, hm⟩ : ∃ m : Int, m = 65536 := ⟨_, rfl⟩
        obtain ⟨x, hx⟩ : ∃ x : Int, x = 1114111 := ⟨_, rfl⟩
        rw [← hm] at hc3 hl'
        rw [← hx] at hc4 hg'
        have hm1 : decide ((55296 : Int) ≤ m) = true := decide_eq_true (by omega)
        have hx1 : decide (x ≤ (57343 : Int)) = false := decide_eq_false (by omega)
        have Hm := Lib.hid hm
        have Hx := Lib.hid hx
        clear hm hx
        go_wp2
        go_quiet (fail)
        go_wp2
        all_goals go_ret2
        all_goals exact ⟨⟨_, rfl, fun he => by rw [(Hend.out he).1]; have hh := (Hend.out he).2; have hm := Hm.out; have hx := Hx.out; rw [Bool.eq_iff_iff]; simp only [okVal, minU, maxU, Bool.and_eq_true, decide_eq_true_iff, Bool.not_eq_true', Bool.and_eq_false_iff, decide_eq_false_iff_not, Bool.false_eq_true, false_iff]; omega⟩, pw_below_drewN HW.out _⟩
end Go.Proofs.YtfeciafdioepiaaDoor
set_option linter.unusedVariables false
set_option linter.unusedSimpArgs false
namespace Go.Proofs.YtfeciafdioepiaaDoor
open Go.RowKit Go.Proofs Go.Proofs.YtfeciafdioepiaaDoorW.PrintWords Go.Proofs.YtfeciafdioepiaaDoorW.PrintMore Go.Proofs.YtfeciafdioepiaaDoor.PA
attribute [local go_sem] max2_int min2_int max_two min_two

/-- The code point at the beginning of bytes, and how many bytes it has. -/
def decR : List UInt8 → Option (Nat × Nat)
  | [] => none
  | c :: l => if sizeU c = 0 ∨ (c :: l).length < sizeU c then none else if okAll (sizeU c) ((c :: l).take (sizeU c)) then some (valL (modU (sizeU c)) ((c :: l).take (sizeU c)), sizeU c) else none
/-- What first answers. -/
def FirstPost (s : ByteArray) (e : Ending) : Prop :=
  match decR s.data.toList with
  | some (v, n) => e = .returned (.tuple #[.int .i32 v, .int .i64 n, .int .i64 0])
  | none => ∃ c : Int, c ≠ 0 ∧ e = .returned (.tuple #[.int .i32 0, .int .i64 0, .int .i64 c])
theorem FirstPost.no {s : ByteArray} (h : decR s.data.toList = none) (c : Int) (hc : c ≠ 0) : FirstPost s (.returned (.tuple #[.int .i32 0, .int .i64 0, .int .i64 c])) := by
  unfold FirstPost; rw [h]; exact ⟨c, hc, rfl⟩
theorem FirstPost.yes {s : ByteArray} {v n : Nat} (h : decR s.data.toList = some (v, n)) : FirstPost s (.returned (.tuple #[.int .i32 v, .int .i64 n, .int .i64 0])) := by
  unfold FirstPost; rw [h]
theorem list_head (s : ByteArray) (h0 : 0 < s.size) : ∃ l, s.data.toList = s[0] :: l := by
  have h : 0 < s.data.toList.length := by simpa using h0
  have hg : s.data.toList[0] = s[0] := by rw [Array.getElem_toList]; rfl
  cases hl : s.data.toList with
  | nil => rw [hl] at h; simp at h
  | cons c l => rw [← hg]; exact ⟨l, by simp [hl]⟩
theorem decR_short (s : ByteArray) (h0 : 0 < s.size) {n : Nat} (hn : sizeU s[0] = n) (h : s.size < n) : decR s.data.toList = none := by
  have hlen : s.data.toList.length = s.size := by simp
  obtain ⟨l, hl⟩ := list_head s h0
  rw [hl] at hlen ⊢
  simp only [decR]
  rw [if_pos (.inr (by rw [hlen, hn]; exact h))]
theorem decR_long (s : ByteArray) (h0 : 0 < s.size) {n : Nat} (hn : sizeU s[0] = n) (h1 : n ≠ 0) (h : n ≤ s.size) :
    decR s.data.toList = if okAll n (s.data.toList.take n) then some (valL (modU n) (s.data.toList.take n), n) else none := by
  have hlen : s.data.toList.length = s.size := by simp
  obtain ⟨l, hl⟩ := list_head s h0
  rw [hl] at hlen ⊢
  simp only [decR]
  rw [hn, if_neg (by rw [hlen]; omega)]
theorem begins_all (s : ByteArray) (w : World) (h0 : 0 < s.size) (hn : sizeU s[0] ≠ 0) (hsz : s.size ≤ sizeU s[0]) : Calls Tryd.prog 102 #[.string s] w fun e w' => BegPost (sizeU s[0]) s e ∧ Below w.heap.size w w' := by
  rcases (sizeU_of s[0]).1 with h | ⟨h, _⟩ | ⟨h, _⟩ | ⟨h, _⟩ | ⟨h, _⟩
  · exact absurd h hn
  · rw [h] at hsz ⊢; exact begins_1 s w h0 h hsz
  · rw [h] at hsz ⊢; exact begins_2 s w h0 h hsz
  · rw [h] at hsz ⊢; exact begins_3 s w h0 h hsz
  · rw [h] at hsz ⊢; exact begins_4 s w h0 h hsz
theorem extract_toList (s : ByteArray) (n : Nat) : (s.extract 0 n).data.toList = s.data.toList.take n := by rw [extract_mk]; simp
theorem begins_take (s : ByteArray) (w : World) (h0 : 0 < s.size) {n : Nat} (hn : sizeU s[0] = n) (h1 : n ≠ 0) (h : n ≤ s.size) :
    Calls Tryd.prog 102 #[.string (s.extract 0 n)] w fun e w' => e = .returned (.tuple #[.int .i64 n, .bool (okAll n (s.data.toList.take n))]) ∧ Below w.heap.size w w' := by
  have hsz : (s.extract 0 n).size = n := by rw [ByteArray.size_extract]; omega
  have hg : (s.extract 0 n)[0]'(by omega) = s[0] := by rw [ByteArray.getElem_extract]
  have := begins_all (s.extract 0 n) w (by omega) (by rw [hg, hn]; exact h1) (by rw [hg, hn, hsz]; omega)
  refine this.mono ?_
  rintro e w' ⟨⟨b, rfl, hb⟩, hB⟩
  rw [hg, hn] at hb ⊢
  rw [hb hsz, extract_toList]
  exact ⟨rfl, hB⟩
theorem fld_at0 (w : World) : (Instr.field 128 (.agg #[.int .u8 0, .int .u8 127, .int .u8 127, .int .i32 0, .int .i32 127]) 2).run Tryd.prog w = .ok (.int .u8 127) w := by
  simp [Instr.field, go_sem, Tryd.underlying128, asAgg]
theorem fld_at1 (w : World) : (Instr.field 128 (.agg #[.int .u8 194, .int .u8 223, .int .u8 31, .int .i32 128, .int .i32 2047]) 2).run Tryd.prog w = .ok (.int .u8 31) w := by
  simp [Instr.field, go_sem, Tryd.underlying128, asAgg]
theorem fld_at2 (w : World) : (Instr.field 128 (.agg #[.int .u8 224, .int .u8 239, .int .u8 15, .int .i32 2048, .int .i32 65535]) 2).run Tryd.prog w = .ok (.int .u8 15) w := by
  simp [Instr.field, go_sem, Tryd.underlying128, asAgg]
theorem fld_at3 (w : World) : (Instr.field 128 (.agg #[.int .u8 240, .int .u8 244, .int .u8 7, .int .i32 65536, .int .i32 1114111]) 2).run Tryd.prog w = .ok (.int .u8 7) w := by
  simp [Instr.field, go_sem, Tryd.underlying128, asAgg]
theorem valL_next {m k : Nat} (s : ByteArray) (hk : 1 ≤ k) (hs : k < s.size) : valL m (s.data.toList.take (k + 1)) = valL m (s.data.toList.take k) * 64 + s[k].toNat % 64 := by
  have hl : k < s.data.toList.length := by simpa using hs
  have hg : s.data.toList[k] = s[k] := by rw [Array.getElem_toList]; rfl
  have e := List.take_succ_eq_append_getElem hl
  rw [hg] at e
  rw [e, valL_snoc _ _ _ (by intro h0; have := congrArg List.length h0; rw [List.length_take, List.length_nil] at this; omega)]
theorem decR_zero (s : ByteArray) (h0 : 0 < s.size) (hn : sizeU s[0] = 0) : decR s.data.toList = none := by
  obtain ⟨l, hl⟩ := list_head s h0
  rw [hl]
  simp only [decR]
  rw [if_pos (.inl hn)]
set_option maxHeartbeats 2000000 in
set_option maxRecDepth 100000 in
theorem first_0 (s : ByteArray) (w : World) (hs : s.size ≤ 140737488355328) (h0 : 0 < s.size) (hn : sizeU s[0] = 0) : Calls Tryd.prog 80 #[.string s] w fun e w' => FirstPost s e ∧ Below w.heap.size w w' := by
  have hz := decR_zero s h0 hn
  generalize hc : s[0] = c at *
  have Hz := Lib.hid hz
  have Hn := Lib.hid hn
  clear hn hz
  go_enter Tryd.func80, Tryd.ntmps80
  go_wp2_with (go_at_call 101; refine (sizeOf_any c _).mono ?_; rw [Hn.out]; rintro e w1 ⟨rfl, hb⟩; have HB := Aside0.mk hb; clear hb)
  exact bodyPost_ret (v := .tuple #[.int .i32 0, .int .i64 0, .int .i64 6]) (by simp [results, Tryd.results80, go_sem]) rfl ⟨FirstPost.no Hz.out _ (by decide), HB.out⟩

set_option maxHeartbeats 2000000 in
set_option maxRecDepth 100000 in
theorem first_1 (s : ByteArray) (w : World) (hs : s.size ≤ 140737488355328) (h0 : 0 < s.size) (hn : sizeU s[0] = 1) : Calls Tryd.prog 80 #[.string s] w fun e w' => FirstPost s e ∧ Below w.heap.size w w' := by
  have i1 := cls_at0
  have f1 := fld_at0
  have hv0 := valL_one 1 s h0
  have hv0 : valL (modU 1) (s.data.toList.take 1) = (s[0]).toNat % 128 := hv0
  have hshort := decR_short s h0 (n := 1) hn
  have hlong := decR_long s h0 (n := 1) hn (by omega)
  have hbs := fun w => begins_all s w h0 (by rw [hn]; omega)
  have hbt := fun w (h : 1 ≤ s.size) => begins_take s w h0 (n := 1) hn (by omega) h
  rw [hn] at hbs
  generalize hc : s[0] = c at *
  have Hshort := Lib.hid hshort
  have Hlong := Lib.hid hlong
  have Hbs := Lib.hid hbs
  have Hbt := Lib.hid hbt
  have Hn := Lib.hid hn
  have Hv0 := Lib.hid hv0
  clear hv0 hshort hlong hbs hbt
  have hb31 : bits BinOp.and IntKind.u8 (c.toNat : Int) 127 = ((c.toNat % 128 : Nat) : Int) := by have := c.toNat_lt; rw [and127 c]; omega
  have hl0 : c.toNat % 128 < 128 := by omega
  generalize hq : c.toNat % 128 = q0 at *
  have Hq := Lib.hid hq
  have hw32 : wrap32 (q0 : Int) = q0 := by unfold wrap32; omega
  clear hn hq
  rcases Nat.lt_or_ge s.size 1 with hlt | hge
  · omega
  · have h20 : decide ((s.size : Int) < 1) = false := decide_eq_false (by omega)
    go_enter Tryd.func80, Tryd.ntmps80
    go_wp2_with (first | (go_at_call 101; refine (sizeOf_any c _).mono ?_; rw [Hn.out]; rintro e w1 ⟨rfl, hb⟩; have HB := Aside0.mk hb; clear hb) | (go_at_call 102; refine (Hbt.out _ hge).mono ?_; rintro e w2 ⟨rfl, hb2⟩; have HB2 := Aside0.mk hb2; clear hb2; generalize hok : okAll 1 (s.data.toList.take 1) = ok at *; have Hok := Lib.hid hok; clear hok; rcases Bool.eq_false_or_eq_true ok with rfl | rfl) | (go_at_call 103; refine (classes_any _).mono ?_; rintro e w3 ⟨rfl, hb3⟩; have HB3 := Aside0.mk hb3; clear hb3))
    · have hwn : IntKind.i64.wrap 0 = 0 := by decide
      have hwq : IntKind.i32.wrap (q0 : Int) = q0 := by rw [IntKind.wrap_i32]; omega
      have HW := Aside0.mk (HB.out.trans (HB2.out.mono HB.out.size))
      go_region_held3 (fun w' => Aside0 (Below w.heap.size w w')) (first | exact ⟨HW.out.drew⟩ | exact ⟨HW.out.drew.trans (HB3.out.mono HW.out.drew.size)⟩) ((go_at_call 103; refine (classes_any _).mono ?_; rintro e w3 ⟨rfl, hb3⟩; have HB3 := Aside0.mk hb3; clear hb3))
      all_goals
        have HW3 : Aside0 (Below w.heap.size w w3) := ⟨HW.out.drew.trans (HB3.out.mono HW.out.drew.size)⟩
        go_wp2
        go_loopw [10, 11] (fun v10 v11 wr => ∃ k r : Nat, 1 ≤ k ∧ k ≤ 1 ∧ v11 = .int .i64 k ∧ v10 = .int .i32 r ∧ r < bnd k ∧ Aside0 (r = valL (modU 1) (s.data.toList.take k)) ∧ Aside0 (Below w.heap.size w wr)) (fun _ v11 _ => 1 - (intOf v11).toNat)
        case atStart => exact ⟨1, q0, by omega, by omega, rfl, rfl, by show q0 < 128; omega, ⟨Hv0.out.symm⟩, HW3⟩
        case round =>
          obtain ⟨k, r0, hk1, hk2, rfl, rfl, hlo, HV, HR⟩ := hrel
          have hk5 : k = 1 := by omega
          rcases hk5 with rfl
          · go_wp2
            refine bodyPost_ret (v := .tuple #[.int .i32 r0, .int .i64 1, .int .i64 0]) (by simp [results, Tryd.results80, go_sem]) rfl ⟨?_, HR.out⟩
            rw [HV.out]
            exact FirstPost.yes (by rw [Hlong.out hge]; rfl)
    · exact bodyPost_ret (v := .tuple #[.int .i32 0, .int .i64 0, .int .i64 3]) (by simp [results, Tryd.results80, go_sem]) rfl ⟨FirstPost.no (by rw [Hlong.out hge]; rfl) _ (by decide), HB.out.trans (HB2.out.mono HB.out.size)⟩

set_option maxHeartbeats 2000000 in
set_option maxRecDepth 100000 in
theorem first_2 (s : ByteArray) (w : World) (hs : s.size ≤ 140737488355328) (h0 : 0 < s.size) (hn : sizeU s[0] = 2) : Calls Tryd.prog 80 #[.string s] w fun e w' => FirstPost s e ∧ Below w.heap.size w w' := by
  have i1 := cls_at1
  have f1 := fld_at1
  have hv0 := valL_one 2 s h0
  have hv0 : valL (modU 2) (s.data.toList.take 1) = (s[0]).toNat % 32 := hv0
  have hshort := decR_short s h0 (n := 2) hn
  have hlong := decR_long s h0 (n := 2) hn (by omega)
  have hbs := fun w => begins_all s w h0 (by rw [hn]; omega)
  have hbt := fun w (h : 2 ≤ s.size) => begins_take s w h0 (n := 2) hn (by omega) h
  rw [hn] at hbs
  generalize hc : s[0] = c at *
  have Hshort := Lib.hid hshort
  have Hlong := Lib.hid hlong
  have Hbs := Lib.hid hbs
  have Hbt := Lib.hid hbt
  have Hn := Lib.hid hn
  have Hv0 := Lib.hid hv0
  clear hv0 hshort hlong hbs hbt
  have hb31 : bits BinOp.and IntKind.u8 (c.toNat : Int) 31 = ((c.toNat % 32 : Nat) : Int) := by have := c.toNat_lt; rw [u8_and31 _ (by omega) (by omega)]; omega
  have hl0 : c.toNat % 32 < 32 := by omega
  generalize hq : c.toNat % 32 = q0 at *
  have Hq := Lib.hid hq
  have hw32 : wrap32 (q0 : Int) = q0 := by unfold wrap32; omega
  clear hn hq
  rcases Nat.lt_or_ge s.size 2 with hlt | hge
  · have h20 : decide ((s.size : Int) < 2) = true := decide_eq_true (by omega)
    go_enter Tryd.func80, Tryd.ntmps80
    go_wp2_with (first | (go_at_call 101; refine (sizeOf_any c _).mono ?_; rw [Hn.out]; rintro e w1 ⟨rfl, hb⟩; have HB := Aside0.mk hb; clear hb) | (go_at_call 102; refine (Hbs.out _ (by omega)).mono ?_; rintro e w2 ⟨hbp, hb2⟩; unfold BegPost at hbp; obtain ⟨b, rfl, hb1⟩ := hbp; have HB2 := Aside0.mk hb2; have HB1 := Lib.hid hb1; clear hb1 hb2; rcases Bool.eq_false_or_eq_true b with rfl | rfl))
    · exact bodyPost_ret (v := .tuple #[.int .i32 0, .int .i64 0, .int .i64 23]) (by simp [results, Tryd.results80, go_sem]) rfl ⟨FirstPost.no (Hshort.out hlt) _ (by decide), HB.out.trans (HB2.out.mono HB.out.size)⟩
    · exact bodyPost_ret (v := .tuple #[.int .i32 0, .int .i64 0, .int .i64 3]) (by simp [results, Tryd.results80, go_sem]) rfl ⟨FirstPost.no (Hshort.out hlt) _ (by decide), HB.out.trans (HB2.out.mono HB.out.size)⟩
  · have h20 : decide ((s.size : Int) < 2) = false := decide_eq_false (by omega)
    go_enter Tryd.func80, Tryd.ntmps80
    go_wp2_with (first | (go_at_call 101; refine (sizeOf_any c _).mono ?_; rw [Hn.out]; rintro e w1 ⟨rfl, hb⟩; have HB := Aside0.mk hb; clear hb) | (go_at_call 102; refine (Hbt.out _ hge).mono ?_; rintro e w2 ⟨rfl, hb2⟩; have HB2 := Aside0.mk hb2; clear hb2; generalize hok : okAll 2 (s.data.toList.take 2) = ok at *; have Hok := Lib.hid hok; clear hok; rcases Bool.eq_false_or_eq_true ok with rfl | rfl) | (go_at_call 103; refine (classes_any _).mono ?_; rintro e w3 ⟨rfl, hb3⟩; have HB3 := Aside0.mk hb3; clear hb3))
    · have hwn : IntKind.i64.wrap 1 = 1 := by decide
      have hwq : IntKind.i32.wrap (q0 : Int) = q0 := by rw [IntKind.wrap_i32]; omega
      have HW := Aside0.mk (HB.out.trans (HB2.out.mono HB.out.size))
      go_region_held3 (fun w' => Aside0 (Below w.heap.size w w')) (first | exact ⟨HW.out.drew⟩ | exact ⟨HW.out.drew.trans (HB3.out.mono HW.out.drew.size)⟩) ((go_at_call 103; refine (classes_any _).mono ?_; rintro e w3 ⟨rfl, hb3⟩; have HB3 := Aside0.mk hb3; clear hb3))
      all_goals
        have HW3 : Aside0 (Below w.heap.size w w3) := ⟨HW.out.drew.trans (HB3.out.mono HW.out.drew.size)⟩
        go_wp2
        go_loopw [10, 11] (fun v10 v11 wr => ∃ k r : Nat, 1 ≤ k ∧ k ≤ 2 ∧ v11 = .int .i64 k ∧ v10 = .int .i32 r ∧ r < bnd k ∧ Aside0 (r = valL (modU 2) (s.data.toList.take k)) ∧ Aside0 (Below w.heap.size w wr)) (fun _ v11 _ => 2 - (intOf v11).toNat)
        case atStart => exact ⟨1, q0, by omega, by omega, rfl, rfl, by show q0 < 128; omega, ⟨Hv0.out.symm⟩, HW3⟩
        case round =>
          obtain ⟨k, r0, hk1, hk2, rfl, rfl, hlo, HV, HR⟩ := hrel
          have hk5 : k = 1 ∨ k = 2 := by omega
          rcases hk5 with rfl | rfl
          · simp only [bnd] at hlo
            have hst := valL_next (m := modU 2) (k := 1) s (by omega) (by omega)
            generalize hd : s[1] = d at *
            have Hst := Lib.hid hst
            clear hst
            have hd256 := d.toNat_lt
            have hb63 : bits BinOp.and IntKind.u8 (d.toNat : Int) 63 = ((d.toNat % 64 : Nat) : Int) := by rw [u8_and63 _ (by omega) (by omega)]; omega
            have hl64 : d.toNat % 64 < 64 := by omega
            generalize hr : d.toNat % 64 = r at *
            have Hr := Lib.hid hr
            clear hr
            go_wp2
            go_roundw
            case rel => exact ⟨2, r0 * 64 + r, by omega, by omega, rfl, by go_num, by show _ < 8192; omega, ⟨by rw [Hst.out, HV.out]⟩, HR⟩
            case measure => simp [intOf]
          · go_wp2
            refine bodyPost_ret (v := .tuple #[.int .i32 r0, .int .i64 2, .int .i64 0]) (by simp [results, Tryd.results80, go_sem]) rfl ⟨?_, HR.out⟩
            rw [HV.out]
            exact FirstPost.yes (by rw [Hlong.out hge]; rfl)
    · exact bodyPost_ret (v := .tuple #[.int .i32 0, .int .i64 0, .int .i64 3]) (by simp [results, Tryd.results80, go_sem]) rfl ⟨FirstPost.no (by rw [Hlong.out hge]; rfl) _ (by decide), HB.out.trans (HB2.out.mono HB.out.size)⟩

set_option maxHeartbeats 2000000 in
set_option maxRecDepth 100000 in
theorem first_3 (s : ByteArray) (w : World) (hs : s.size ≤ 140737488355328) (h0 : 0 < s.size) (hn : sizeU s[0] = 3) : Calls Tryd.prog 80 #[.string s] w fun e w' => FirstPost s e ∧ Below w.heap.size w w' := by
  have i1 := cls_at2
  have f1 := fld_at2
  have hv0 := valL_one 3 s h0
  have hv0 : valL (modU 3) (s.data.toList.take 1) = (s[0]).toNat % 16 := hv0
  have hshort := decR_short s h0 (n := 3) hn
  have hlong := decR_long s h0 (n := 3) hn (by omega)
  have hbs := fun w => begins_all s w h0 (by rw [hn]; omega)
  have hbt := fun w (h : 3 ≤ s.size) => begins_take s w h0 (n := 3) hn (by omega) h
  rw [hn] at hbs
  generalize hc : s[0] = c at *
  have Hshort := Lib.hid hshort
  have Hlong := Lib.hid hlong
  have Hbs := Lib.hid hbs
  have Hbt := Lib.hid hbt
  have Hn := Lib.hid hn
  have Hv0 := Lib.hid hv0
  clear hv0 hshort hlong hbs hbt
  have hb31 : bits BinOp.and IntKind.u8 (c.toNat : Int) 15 = ((c.toNat % 16 : Nat) : Int) := by have := c.toNat_lt; rw [u8_and15 _ (by omega) (by omega)]; omega
  have hl0 : c.toNat % 16 < 16 := by omega
  generalize hq : c.toNat % 16 = q0 at *
  have Hq := Lib.hid hq
  have hw32 : wrap32 (q0 : Int) = q0 := by unfold wrap32; omega
  clear hn hq
  rcases Nat.lt_or_ge s.size 3 with hlt | hge
  · have h20 : decide ((s.size : Int) < 3) = true := decide_eq_true (by omega)
    go_enter Tryd.func80, Tryd.ntmps80
    go_wp2_with (first | (go_at_call 101; refine (sizeOf_any c _).mono ?_; rw [Hn.out]; rintro e w1 ⟨rfl, hb⟩; have HB := Aside0.mk hb; clear hb) | (go_at_call 102; refine (Hbs.out _ (by omega)).mono ?_; rintro e w2 ⟨hbp, hb2⟩; unfold BegPost at hbp; obtain ⟨b, rfl, hb1⟩ := hbp; have HB2 := Aside0.mk hb2; have HB1 := Lib.hid hb1; clear hb1 hb2; rcases Bool.eq_false_or_eq_true b with rfl | rfl))
    · exact bodyPost_ret (v := .tuple #[.int .i32 0, .int .i64 0, .int .i64 23]) (by simp [results, Tryd.results80, go_sem]) rfl ⟨FirstPost.no (Hshort.out hlt) _ (by decide), HB.out.trans (HB2.out.mono HB.out.size)⟩
    · exact bodyPost_ret (v := .tuple #[.int .i32 0, .int .i64 0, .int .i64 3]) (by simp [results, Tryd.results80, go_sem]) rfl ⟨FirstPost.no (Hshort.out hlt) _ (by decide), HB.out.trans (HB2.out.mono HB.out.size)⟩
  · have h20 : decide ((s.size : Int) < 3) = false := decide_eq_false (by omega)
    go_enter Tryd.func80, Tryd.ntmps80
    go_wp2_with (first | (go_at_call 101; refine (sizeOf_any c _).mono ?_; rw [Hn.out]; rintro e w1 ⟨rfl, hb⟩; have HB := Aside0.mk hb; clear hb) | (go_at_call 102; refine (Hbt.out _ hge).mono ?_; rintro e w2 ⟨rfl, hb2⟩; have HB2 := Aside0.mk hb2; clear hb2; generalize hok : okAll 3 (s.data.toList.take 3) = ok at *; have Hok := Lib.hid hok; clear hok; rcases Bool.eq_false_or_eq_true ok with rfl | rfl) | (go_at_call 103; refine (classes_any _).mono ?_; rintro e w3 ⟨rfl, hb3⟩; have HB3 := Aside0.mk hb3; clear hb3))
    · have hwn : IntKind.i64.wrap 2 = 2 := by decide
      have hwq : IntKind.i32.wrap (q0 : Int) = q0 := by rw [IntKind.wrap_i32]; omega
      have HW := Aside0.mk (HB.out.trans (HB2.out.mono HB.out.size))
      go_region_held3 (fun w' => Aside0 (Below w.heap.size w w')) (first | exact ⟨HW.out.drew⟩ | exact ⟨HW.out.drew.trans (HB3.out.mono HW.out.drew.size)⟩) ((go_at_call 103; refine (classes_any _).mono ?_; rintro e w3 ⟨rfl, hb3⟩; have HB3 := Aside0.mk hb3; clear hb3))
      all_goals
        have HW3 : Aside0 (Below w.heap.size w w3) := ⟨HW.out.drew.trans (HB3.out.mono HW.out.drew.size)⟩
        go_wp2
        go_loopw [10, 11] (fun v10 v11 wr => ∃ k r : Nat, 1 ≤ k ∧ k ≤ 3 ∧ v11 = .int .i64 k ∧ v10 = .int .i32 r ∧ r < bnd k ∧ Aside0 (r = valL (modU 3) (s.data.toList.take k)) ∧ Aside0 (Below w.heap.size w wr)) (fun _ v11 _ => 3 - (intOf v11).toNat)
        case atStart => exact ⟨1, q0, by omega, by omega, rfl, rfl, by show q0 < 128; omega, ⟨Hv0.out.symm⟩, HW3⟩
        case round =>
          obtain ⟨k, r0, hk1, hk2, rfl, rfl, hlo, HV, HR⟩ := hrel
          have hk5 : k = 1 ∨ k = 2 ∨ k = 3 := by omega
          rcases hk5 with rfl | rfl | rfl
          · simp only [bnd] at hlo
            have hst := valL_next (m := modU 3) (k := 1) s (by omega) (by omega)
            generalize hd : s[1] = d at *
            have Hst := Lib.hid hst
            clear hst
            have hd256 := d.toNat_lt
            have hb63 : bits BinOp.and IntKind.u8 (d.toNat : Int) 63 = ((d.toNat % 64 : Nat) : Int) := by rw [u8_and63 _ (by omega) (by omega)]; omega
            have hl64 : d.toNat % 64 < 64 := by omega
            generalize hr : d.toNat % 64 = r at *
            have Hr := Lib.hid hr
            clear hr
            go_wp2
            go_roundw
            case rel => exact ⟨2, r0 * 64 + r, by omega, by omega, rfl, by go_num, by show _ < 8192; omega, ⟨by rw [Hst.out, HV.out]⟩, HR⟩
            case measure => simp [intOf]
          · simp only [bnd] at hlo
            have hst := valL_next (m := modU 3) (k := 2) s (by omega) (by omega)
            generalize hd : s[2] = d at *
            have Hst := Lib.hid hst
            clear hst
            have hd256 := d.toNat_lt
            have hb63 : bits BinOp.and IntKind.u8 (d.toNat : Int) 63 = ((d.toNat % 64 : Nat) : Int) := by rw [u8_and63 _ (by omega) (by omega)]; omega
            have hl64 : d.toNat % 64 < 64 := by omega
            generalize hr : d.toNat % 64 = r at *
            have Hr := Lib.hid hr
            clear hr
            go_wp2
            go_roundw
            case rel => exact ⟨3, r0 * 64 + r, by omega, by omega, rfl, by go_num, by show _ < 524288; omega, ⟨by rw [Hst.out, HV.out]⟩, HR⟩
            case measure => simp [intOf]
          · go_wp2
            refine bodyPost_ret (v := .tuple #[.int .i32 r0, .int .i64 3, .int .i64 0]) (by simp [results, Tryd.results80, go_sem]) rfl ⟨?_, HR.out⟩
            rw [HV.out]
            exact FirstPost.yes (by rw [Hlong.out hge]; rfl)
    · exact bodyPost_ret (v := .tuple #[.int .i32 0, .int .i64 0, .int .i64 3]) (by simp [results, Tryd.results80, go_sem]) rfl ⟨FirstPost.no (by rw [Hlong.out hge]; rfl) _ (by decide), HB.out.trans (HB2.out.mono HB.out.size)⟩

set_option maxHeartbeats 2000000 in
set_option maxRecDepth 100000 in
theorem first_4 (s : ByteArray) (w : World) (hs : s.size ≤ 140737488355328) (h0 : 0 < s.size) (hn : sizeU s[0] = 4) : Calls Tryd.prog 80 #[.string s] w fun e w' => FirstPost s e ∧ Below w.heap.size w w' := by
  have i1 := cls_at3
  have f1 := fld_at3
  have hv0 := valL_one 4 s h0
  have hv0 : valL (modU 4) (s.data.toList.take 1) = (s[0]).toNat % 8 := hv0
  have hshort := decR_short s h0 (n := 4) hn
  have hlong := decR_long s h0 (n := 4) hn (by omega)
  have hbs := fun w => begins_all s w h0 (by rw [hn]; omega)
  have hbt := fun w (h : 4 ≤ s.size) => begins_take s w h0 (n := 4) hn (by omega) h
  rw [hn] at hbs
  generalize hc : s[0] = c at *
  have Hshort := Lib.hid hshort
  have Hlong := Lib.hid hlong
  have Hbs := Lib.hid hbs
  have Hbt := Lib.hid hbt
  have Hn := Lib.hid hn
  have Hv0 := Lib.hid hv0
  clear hv0 hshort hlong hbs hbt
  have hb31 : bits BinOp.and IntKind.u8 (c.toNat : Int) 7 = ((c.toNat % 8 : Nat) : Int) := by have := c.toNat_lt; rw [u8_and7 _ (by omega) (by omega)]; omega
  have hl0 : c.toNat % 8 < 8 := by omega
  generalize hq : c.toNat % 8 = q0 at *
  have Hq := Lib.hid hq
  have hw32 : wrap32 (q0 : Int) = q0 := by unfold wrap32; omega
  clear hn hq
  rcases Nat.lt_or_ge s.size 4 with hlt | hge
  · have h20 : decide ((s.size : Int) < 4) = true := decide_eq_true (by omega)
    go_enter Tryd.func80, Tryd.ntmps80
    go_wp2_with (first | (go_at_call 101; refine (sizeOf_any c _).mono ?_; rw [Hn.out]; rintro e w1 ⟨rfl, hb⟩; have HB := Aside0.mk hb; clear hb) | (go_at_call 102; refine (Hbs.out _ (by omega)).mono ?_; rintro e w2 ⟨hbp, hb2⟩; unfold BegPost at hbp; obtain ⟨b, rfl, hb1⟩ := hbp; have HB2 := Aside0.mk hb2; have HB1 := Lib.hid hb1; clear hb1 hb2; rcases Bool.eq_false_or_eq_true b with rfl | rfl))
    · exact bodyPost_ret (v := .tuple #[.int .i32 0, .int .i64 0, .int .i64 23]) (by simp [results, Tryd.results80, go_sem]) rfl ⟨FirstPost.no (Hshort.out hlt) _ (by decide), HB.out.trans (HB2.out.mono HB.out.size)⟩
    · exact bodyPost_ret (v := .tuple #[.int .i32 0, .int .i64 0, .int .i64 3]) (by simp [results, Tryd.results80, go_sem]) rfl ⟨FirstPost.no (Hshort.out hlt) _ (by decide), HB.out.trans (HB2.out.mono HB.out.size)⟩
  · have h20 : decide ((s.size : Int) < 4) = false := decide_eq_false (by omega)
    go_enter Tryd.func80, Tryd.ntmps80
    go_wp2_with (first | (go_at_call 101; refine (sizeOf_any c _).mono ?_; rw [Hn.out]; rintro e w1 ⟨rfl, hb⟩; have HB := Aside0.mk hb; clear hb) | (go_at_call 102; refine (Hbt.out _ hge).mono ?_; rintro e w2 ⟨rfl, hb2⟩; have HB2 := Aside0.mk hb2; clear hb2; generalize hok : okAll 4 (s.data.toList.take 4) = ok at *; have Hok := Lib.hid hok; clear hok; rcases Bool.eq_false_or_eq_true ok with rfl | rfl) | (go_at_call 103; refine (classes_any _).mono ?_; rintro e w3 ⟨rfl, hb3⟩; have HB3 := Aside0.mk hb3; clear hb3))
    · have hwn : IntKind.i64.wrap 3 = 3 := by decide
      have hwq : IntKind.i32.wrap (q0 : Int) = q0 := by rw [IntKind.wrap_i32]; omega
      have HW := Aside0.mk (HB.out.trans (HB2.out.mono HB.out.size))
      go_region_held3 (fun w' => Aside0 (Below w.heap.size w w')) (first | exact ⟨HW.out.drew⟩ | exact ⟨HW.out.drew.trans (HB3.out.mono HW.out.drew.size)⟩) ((go_at_call 103; refine (classes_any _).mono ?_; rintro e w3 ⟨rfl, hb3⟩; have HB3 := Aside0.mk hb3; clear hb3))
      all_goals
        have HW3 : Aside0 (Below w.heap.size w w3) := ⟨HW.out.drew.trans (HB3.out.mono HW.out.drew.size)⟩
        go_wp2
        go_loopw [10, 11] (fun v10 v11 wr => ∃ k r : Nat, 1 ≤ k ∧ k ≤ 4 ∧ v11 = .int .i64 k ∧ v10 = .int .i32 r ∧ r < bnd k ∧ Aside0 (r = valL (modU 4) (s.data.toList.take k)) ∧ Aside0 (Below w.heap.size w wr)) (fun _ v11 _ => 4 - (intOf v11).toNat)
        case atStart => exact ⟨1, q0, by omega, by omega, rfl, rfl, by show q0 < 128; omega, ⟨Hv0.out.symm⟩, HW3⟩
        case round =>
          obtain ⟨k, r0, hk1, hk2, rfl, rfl, hlo, HV, HR⟩ := hrel
          have hk5 : k = 1 ∨ k = 2 ∨ k = 3 ∨ k = 4 := by omega
          rcases hk5 with rfl | rfl | rfl | rfl
          · simp only [bnd] at hlo
            have hst := valL_next (m := modU 4) (k := 1) s (by omega) (by omega)
            generalize hd : s[1] = d at *
            have Hst := Lib.hid hst
            clear hst
            have hd256 := d.toNat_lt
            have hb63 : bits BinOp.and IntKind.u8 (d.toNat : Int) 63 = ((d.toNat % 64 : Nat) : Int) := by rw [u8_and63 _ (by omega) (by omega)]; omega
            have hl64 : d.toNat % 64 < 64 := by omega
            generalize hr : d.toNat % 64 = r at *
            have Hr := Lib.hid hr
            clear hr
            go_wp2
            go_roundw
            case rel => exact ⟨2, r0 * 64 + r, by omega, by omega, rfl, by go_num, by show _ < 8192; omega, ⟨by rw [Hst.out, HV.out]⟩, HR⟩
            case measure => simp [intOf]
          · simp only [bnd] at hlo
            have hst := valL_next (m := modU 4) (k := 2) s (by omega) (by omega)
            generalize hd : s[2] = d at *
            have Hst := Lib.hid hst
            clear hst
            have hd256 := d.toNat_lt
            have hb63 : bits BinOp.and IntKind.u8 (d.toNat : Int) 63 = ((d.toNat % 64 : Nat) : Int) := by rw [u8_and63 _ (by omega) (by omega)]; omega
            have hl64 : d.toNat % 64 < 64 := by omega
            generalize hr : d.toNat % 64 = r at *
            have Hr := Lib.hid hr
            clear hr
            go_wp2
            go_roundw
            case rel => exact ⟨3, r0 * 64 + r, by omega, by omega, rfl, by go_num, by show _ < 524288; omega, ⟨by rw [Hst.out, HV.out]⟩, HR⟩
            case measure => simp [intOf]
          · simp only [bnd] at hlo
            have hst := valL_next (m := modU 4) (k := 3) s (by omega) (by omega)
            generalize hd : s[3] = d at *
            have Hst := Lib.hid hst
            clear hst
            have hd256 := d.toNat_lt
            have hb63 : bits BinOp.and IntKind.u8 (d.toNat : Int) 63 = ((d.toNat % 64 : Nat) : Int) := by rw [u8_and63 _ (by omega) (by omega)]; omega
            have hl64 : d.toNat % 64 < 64 := by omega
            generalize hr : d.toNat % 64 = r at *
            have Hr := Lib.hid hr
            clear hr
            go_wp2
            go_roundw
            case rel => exact ⟨4, r0 * 64 + r, by omega, by omega, rfl, by go_num, by show _ < 33554432; omega, ⟨by rw [Hst.out, HV.out]⟩, HR⟩
            case measure => simp [intOf]
          · go_wp2
            refine bodyPost_ret (v := .tuple #[.int .i32 r0, .int .i64 4, .int .i64 0]) (by simp [results, Tryd.results80, go_sem]) rfl ⟨?_, HR.out⟩
            rw [HV.out]
            exact FirstPost.yes (by rw [Hlong.out hge]; rfl)
    · exact bodyPost_ret (v := .tuple #[.int .i32 0, .int .i64 0, .int .i64 3]) (by simp [results, Tryd.results80, go_sem]) rfl ⟨FirstPost.no (by rw [Hlong.out hge]; rfl) _ (by decide), HB.out.trans (HB2.out.mono HB.out.size)⟩
theorem first_any (s : ByteArray) (w : World) (hs : s.size ≤ 140737488355328) (h0 : 0 < s.size) : Calls Tryd.prog 80 #[.string s] w fun e w' => FirstPost s e ∧ Below w.heap.size w w' := by
  rcases (sizeU_of s[0]).1 with h | ⟨h, _⟩ | ⟨h, _⟩ | ⟨h, _⟩ | ⟨h, _⟩
  · exact first_0 s w hs h0 h
  · exact first_1 s w hs h0 h
  · exact first_2 s w hs h0 h
  · exact first_3 s w hs h0 h
  · exact first_4 s w hs h0 h
end Go.Proofs.YtfeciafdioepiaaDoor
set_option linter.unusedVariables false
set_option linter.unusedSimpArgs false
namespace Go.Proofs.YtfeciafdioepiaaDoor
open Go.RowKit Go.Proofs Go.Proofs.YtfeciafdioepiaaDoorW.PrintWords Go.Proofs.YtfeciafdioepiaaDoorW.PrintMore Go.Proofs.YtfeciafdioepiaaDoor.PA

theorem BufAt.zeros (w : World) (n : Nat) : BufAt (w.alloc (.cells (List.replicate n (.int .u8 0)).toArray 5)) w.heap.size (List.replicate n 0) := by
  have hb := heap_alloc_last w (.cells (List.replicate n (.int .u8 0)).toArray 5)
  refine ⟨by simp, fun j hj => ?_, fun j hj => blk_frozen hb j⟩
  rw [List.length_replicate] at hj
  refine (blk_cell hb j).trans ?_
  simp [List.getD_eq_getElem?_getD, List.getElem?_replicate, hj]
theorem or_zero (v : Nat) (h : v < 256) : bits BinOp.or IntKind.u8 0 (v : Int) = (v : Int) := by
  have key : ∀ c : UInt8, bits BinOp.or IntKind.u8 0 (c.toNat : Int) = (c.toNat : Int) := by
    refine fun c => all_u8 (P := fun c => bits BinOp.or IntKind.u8 0 (c.toNat : Int) = (c.toNat : Int)) ?_ c
    decide +kernel
  have := key (UInt8.ofNat v)
  rwa [UInt8.toNat_ofNat', Nat.mod_eq_of_lt h] at this

theorem make_1 (w : World) : (Instr.makeSlice 55 (.int .i64 1) (.int .i64 1)).run Tryd.prog w = .ok (.slice (some ⟨w.heap.size, 0, none⟩) 1 1) (w.alloc (.cells #[.int .u8 0] 5)) := by
  obtain ⟨i0, hi, hz0, hz1, hz2⟩ := info_parts infoByte
  rw [run_make w 55 5 i0 _ Tryd.underlying55 hi hz0 .i64 .i64 1 1 (by decide) (by decide) (by rw [hz2]; decide) (by decide), hz1, show madeCells (Value.int IntKind.u8 0).cells (((1 : Int)).toNat * 1) = #[.int .u8 0] from by kernel_rfl]
  rfl
def encL1 (v : Nat) : List UInt8 := [UInt8.ofNat (v)]
set_option maxHeartbeats 2000000 in
set_option maxRecDepth 100000 in
theorem encode_1 (v : Nat) (w : World) (h1 : 0 ≤ v) (h2 : v ≤ 127) (h3 : v < 55296 ∨ 57343 < v) : Calls Tryd.prog 116 #[.int .i32 v] w fun e w' => e = .returned (.tuple #[.string (mkS (encL1 v)), .int .i64 0]) ∧ Below w.heap.size w w' := by
  have mk := make_1
  have hnot : bits BinOp.andNot IntKind.u8 0 127 = 0 := by decide
  have i0 := cls_at0
  go_enter Tryd.func116, Tryd.ntmps116
  go_wp2_with (go_at_call 103; refine (classes_any _).mono ?_; rintro e w1 ⟨rfl, hb⟩)
  have HB := Aside0.mk hb
  clear hb
  go_loopw [0, 9] (fun v0 v9 wr => ∃ k : Nat, k ≤ 0 ∧ v9 = .int .i64 k ∧ v0 = .int .i32 v ∧ Aside0 (Below w.heap.size w wr)) (fun _ v9 _ => 4 - (intOf v9).toNat)
  case atStart => exact ⟨0, by omega, rfl, rfl, ⟨HB.out⟩⟩
  case round =>
    obtain ⟨k, hk, rfl, rfl, HW⟩ := hrel
    have hk5 : k = 0 := by omega
    rcases hk5 with rfl
    · have hq : utf8_class_within.f 0 127 127 0 127 (v : Int) = some true := by
        unfold utf8_class_within.f; rw [if_pos (by omega), if_pos (by omega)]
        by_cases hv : (v : Int) < 55296
        · rw [if_pos hv]
        · rw [if_neg hv, decide_eq_true (by omega)]
      have Hq := Lib.hid hq
      clear hq
      have hbk := heap_alloc_last wr (.cells #[.int .u8 0, .int .u8 127, .int .u8 127, .int .i32 0, .int .i32 127] 128)
      have HBK := Aside0.mk hbk
      clear hbk
      go_wp2_with (go_at_call 134; refine (utf8_class_within.calls _ _ _ _ _ _ true _ Hq.out).mono ?_; rintro e w2 ⟨rfl, hb2⟩; have HB2 := Aside0.mk hb2; clear hb2)
      have HW2 : Aside0 (Below w.heap.size w w2) := ⟨(HW.out.alloc HW.out.size _).trans (HB2.out.mono (HW.out.alloc HW.out.size _).size)⟩
      have hbk2 : w2.heap[wr.heap.size]? = some (.cells #[.int .u8 0, .int .u8 127, .int .u8 127, .int .i32 0, .int .i32 127] 128 (0, 0)) := (HB2.out.block _ (by simp)).trans HBK.out
      have hlt2 : wr.heap.size < w2.heap.size := (Array.getElem?_eq_some_iff.1 hbk2).1
      have HBK2 := Aside0.mk hbk2
      have Hlt2 := Lib.hid hlt2
      clear hbk2 hlt2
      go_loopw [0, 7] (fun v0 v7 wi => ∃ j : Nat, j ≤ 0 ∧ v7 = .int .i64 j ∧ Aside0 (wi.heap[wr.heap.size]? = some (.cells #[.int .u8 0, .int .u8 127, .int .u8 127, .int .i32 0, .int .i32 127] 128 (0, 0))) ∧ Aside0 (Below w.heap.size w wi) ∧ ((j = 0 ∧ v0 = .int .i32 (((v : Nat) : Int)) ∧ Aside0 (BufAt wi w2.heap.size [0])))) (fun _ v7 _ => (intOf v7).toNat)
      case atStart =>
        refine ⟨0, by omega, rfl, ⟨blk_alloc HBK2.out _⟩, ⟨HW2.out.alloc HW2.out.size _⟩, ⟨rfl, rfl, ⟨BufAt.zeros w2 1⟩⟩⟩
      case round =>
        obtain ⟨j, hj, rfl, HC, HWi, hst⟩ := hrel
        rcases hst with ⟨rfl, rfl, HBuf⟩
        · have hcl := (blk_cell HC.out 0).trans rfl
          have hcm := (blk_cell HC.out 2).trans rfl
          have hbc := HBuf.out.cell 0 (by simp)
          have hbf := HBuf.out.free 0 (by simp)
          have hx : ((UInt8.ofNat (v)).toNat : Int) = (v : Int) := by rw [UInt8.toNat_ofNat']; omega
          have hset := HBuf.out.set (k := 0) (by simp) (UInt8.ofNat (v))
          rw [hx] at hset
          have hs := hset.string (by simp) 1
          have hs2 : (convert 55 9 (.slice (some ⟨w2.heap.size, 0, none⟩) 1 1)).run Tryd.prog (wr.setCell ⟨w2.heap.size, 0, none⟩ (.int .u8 ((v : Int)))) = .ok (.string (mkS (encL1 v))) (wr.setCell ⟨w2.heap.size, 0, none⟩ (.int .u8 ((v : Int)))) := hs
          have Hlt := Lib.hid (Nat.le_of_lt (Nat.lt_of_le_of_lt HW.out.size Hlt2.out))
          clear hset hs hx
          have hor0 := or_zero v (by omega)
          go_wp2
          go_ret2
          exact ⟨rfl, HWi.out.setCell (p := ⟨w2.heap.size, 0, none⟩) Hlt.out _⟩

theorem make_2 (w : World) : (Instr.makeSlice 55 (.int .i64 2) (.int .i64 2)).run Tryd.prog w = .ok (.slice (some ⟨w.heap.size, 0, none⟩) 2 2) (w.alloc (.cells #[.int .u8 0, .int .u8 0] 5)) := by
  obtain ⟨i0, hi, hz0, hz1, hz2⟩ := info_parts infoByte
  rw [run_make w 55 5 i0 _ Tryd.underlying55 hi hz0 .i64 .i64 2 2 (by decide) (by decide) (by rw [hz2]; decide) (by decide), hz1, show madeCells (Value.int IntKind.u8 0).cells (((2 : Int)).toNat * 1) = #[.int .u8 0, .int .u8 0] from by kernel_rfl]
  rfl
def encL2 (v : Nat) : List UInt8 := [UInt8.ofNat (192 + v / 64), UInt8.ofNat (128 + v % 64)]
set_option maxHeartbeats 2000000 in
set_option maxRecDepth 100000 in
theorem encode_2 (v : Nat) (w : World) (h1 : 128 ≤ v) (h2 : v ≤ 2047) (h3 : v < 55296 ∨ 57343 < v) : Calls Tryd.prog 116 #[.int .i32 v] w fun e w' => e = .returned (.tuple #[.string (mkS (encL2 v)), .int .i64 0]) ∧ Below w.heap.size w w' := by
  have mk := make_2
  have hnot : bits BinOp.andNot IntKind.u8 194 31 = 192 := by decide
  have i0 := cls_at0
  have i1 := cls_at1
  go_enter Tryd.func116, Tryd.ntmps116
  go_wp2_with (go_at_call 103; refine (classes_any _).mono ?_; rintro e w1 ⟨rfl, hb⟩)
  have HB := Aside0.mk hb
  clear hb
  go_loopw [0, 9] (fun v0 v9 wr => ∃ k : Nat, k ≤ 1 ∧ v9 = .int .i64 k ∧ v0 = .int .i32 v ∧ Aside0 (Below w.heap.size w wr)) (fun _ v9 _ => 4 - (intOf v9).toNat)
  case atStart => exact ⟨0, by omega, rfl, rfl, ⟨HB.out⟩⟩
  case round =>
    obtain ⟨k, hk, rfl, rfl, HW⟩ := hrel
    have hk5 : k = 0 ∨ k = 1 := by omega
    rcases hk5 with rfl | rfl
    · have hq : utf8_class_within.f 0 127 127 0 127 (v : Int) = some false := by unfold utf8_class_within.f; rw [if_pos (by omega), if_neg (by omega)]
      have Hq := Lib.hid hq
      clear hq
      go_wp2_with (go_at_call 134; refine (utf8_class_within.calls _ _ _ _ _ _ false _ Hq.out).mono ?_; rintro e w2 ⟨rfl, hb2⟩; have HB2 := Aside0.mk hb2; clear hb2)
      go_roundw
      case rel => exact ⟨1, by omega, rfl, rfl, ⟨(HW.out.alloc HW.out.size _).trans (HB2.out.mono (HW.out.alloc HW.out.size _).size)⟩⟩
      case measure => simp [intOf]
    · have hq : utf8_class_within.f 194 223 31 128 2047 (v : Int) = some true := by
        unfold utf8_class_within.f; rw [if_pos (by omega), if_pos (by omega)]
        by_cases hv : (v : Int) < 55296
        · rw [if_pos hv]
        · rw [if_neg hv, decide_eq_true (by omega)]
      have Hq := Lib.hid hq
      clear hq
      have hbk := heap_alloc_last wr (.cells #[.int .u8 194, .int .u8 223, .int .u8 31, .int .i32 128, .int .i32 2047] 128)
      have HBK := Aside0.mk hbk
      clear hbk
      go_wp2_with (go_at_call 134; refine (utf8_class_within.calls _ _ _ _ _ _ true _ Hq.out).mono ?_; rintro e w2 ⟨rfl, hb2⟩; have HB2 := Aside0.mk hb2; clear hb2)
      have HW2 : Aside0 (Below w.heap.size w w2) := ⟨(HW.out.alloc HW.out.size _).trans (HB2.out.mono (HW.out.alloc HW.out.size _).size)⟩
      have hbk2 : w2.heap[wr.heap.size]? = some (.cells #[.int .u8 194, .int .u8 223, .int .u8 31, .int .i32 128, .int .i32 2047] 128 (0, 0)) := (HB2.out.block _ (by simp)).trans HBK.out
      have hlt2 : wr.heap.size < w2.heap.size := (Array.getElem?_eq_some_iff.1 hbk2).1
      have HBK2 := Aside0.mk hbk2
      have Hlt2 := Lib.hid hlt2
      clear hbk2 hlt2
      go_loopw [0, 7] (fun v0 v7 wi => ∃ j : Nat, j ≤ 1 ∧ v7 = .int .i64 j ∧ Aside0 (wi.heap[wr.heap.size]? = some (.cells #[.int .u8 194, .int .u8 223, .int .u8 31, .int .i32 128, .int .i32 2047] 128 (0, 0))) ∧ Aside0 (Below w.heap.size w wi) ∧ ((j = 0 ∧ v0 = .int .i32 (((v / 64 : Nat) : Int)) ∧ Aside0 (BufAt wi w2.heap.size [0, UInt8.ofNat (128 + v % 64)])) ∨ (j = 1 ∧ v0 = .int .i32 (((v : Nat) : Int)) ∧ Aside0 (BufAt wi w2.heap.size [0, 0])))) (fun _ v7 _ => (intOf v7).toNat)
      case atStart =>
        refine ⟨1, by omega, rfl, ⟨blk_alloc HBK2.out _⟩, ⟨HW2.out.alloc HW2.out.size _⟩, Or.inr (⟨rfl, rfl, ⟨BufAt.zeros w2 2⟩⟩)⟩
      case round =>
        obtain ⟨j, hj, rfl, HC, HWi, hst⟩ := hrel
        rcases hst with ⟨rfl, rfl, HBuf⟩ | ⟨rfl, rfl, HBuf⟩
        · have hcl := (blk_cell HC.out 0).trans rfl
          have hcm := (blk_cell HC.out 2).trans rfl
          have hbc := HBuf.out.cell 0 (by simp)
          have hbf := HBuf.out.free 0 (by simp)
          have hx : ((UInt8.ofNat (192 + v / 64)).toNat : Int) = 192 + (v : Int) / 64 := by rw [UInt8.toNat_ofNat']; omega
          have hset := HBuf.out.set (k := 0) (by simp) (UInt8.ofNat (192 + v / 64))
          rw [hx] at hset
          have hs := hset.string (by simp) 2
          have hs2 : (convert 55 9 (.slice (some ⟨w2.heap.size, 0, none⟩) 2 2)).run Tryd.prog (wr.setCell ⟨w2.heap.size, 0, none⟩ (.int .u8 (192 + (v : Int) / 64))) = .ok (.string (mkS (encL2 v))) (wr.setCell ⟨w2.heap.size, 0, none⟩ (.int .u8 (192 + (v : Int) / 64))) := hs
          have Hlt := Lib.hid (Nat.le_of_lt (Nat.lt_of_le_of_lt HW.out.size Hlt2.out))
          clear hset hs hx

          go_wp2
          go_ret2
          exact ⟨rfl, HWi.out.setCell (p := ⟨w2.heap.size, 0, none⟩) Hlt.out _⟩
        · have hbc := HBuf.out.cell 1 (by simp)
          have hbf := HBuf.out.free 1 (by simp)
          have hrest : (v : Nat) / 64 = v / 64 := by omega
          have hset := HBuf.out.set (k := 1) (by simp) (UInt8.ofNat (128 + v % 64))
          have hand : bits BinOp.and IntKind.i32 (((v : Nat) : Int)) 63 = (((v % 64 : Nat)) : Int) := by rw [show (63 : Int) = 2 ^ 6 - 1 from by decide, bits_mask .i32 31 (by decide) wraps_i32 6 (by decide) _ (by omega) (by omega)]; omega
          have hx : ((UInt8.ofNat (128 + v % 64)).toNat : Int) = 128 + (((v % 64 : Nat)) : Int) := by rw [UInt8.toNat_ofNat']; omega
          rw [hx] at hset
          have hm64 : v % 64 < 64 := by omega
          generalize hmq : v % 64 = m at *
          have hor : bits BinOp.or IntKind.u8 128 (m : Int) = 128 + (m : Int) := u8_or128 _ (by omega) (by omega)
          have Hrest := Lib.hid hrest
          have Hset := Aside0.mk hset
          have Hlt := Lib.hid (Nat.le_of_lt (Nat.lt_of_le_of_lt HW.out.size Hlt2.out))
          clear hx hmq hset hrest
          go_wp2
          go_roundw
          case rel =>
            refine ⟨0, by omega, by go_num, ⟨(Below.heap_setCell _ _ _ _ (by have := Hlt2.out; simp; omega)).trans HC.out⟩, ⟨HWi.out.setCell (p := ⟨w2.heap.size, 1, none⟩) Hlt.out _⟩, Or.inl ⟨rfl, ?_, ⟨Hset.out⟩⟩⟩
            have := Hrest.out
            go_num
          case measure => simp [intOf]

theorem make_3 (w : World) : (Instr.makeSlice 55 (.int .i64 3) (.int .i64 3)).run Tryd.prog w = .ok (.slice (some ⟨w.heap.size, 0, none⟩) 3 3) (w.alloc (.cells #[.int .u8 0, .int .u8 0, .int .u8 0] 5)) := by
  obtain ⟨i0, hi, hz0, hz1, hz2⟩ := info_parts infoByte
  rw [run_make w 55 5 i0 _ Tryd.underlying55 hi hz0 .i64 .i64 3 3 (by decide) (by decide) (by rw [hz2]; decide) (by decide), hz1, show madeCells (Value.int IntKind.u8 0).cells (((3 : Int)).toNat * 1) = #[.int .u8 0, .int .u8 0, .int .u8 0] from by kernel_rfl]
  rfl
def encL3 (v : Nat) : List UInt8 := [UInt8.ofNat (224 + v / 4096), UInt8.ofNat (128 + v / 64 % 64), UInt8.ofNat (128 + v % 64)]
set_option maxHeartbeats 2000000 in
set_option maxRecDepth 100000 in
theorem encode_3 (v : Nat) (w : World) (h1 : 2048 ≤ v) (h2 : v ≤ 65535) (h3 : v < 55296 ∨ 57343 < v) : Calls Tryd.prog 116 #[.int .i32 v] w fun e w' => e = .returned (.tuple #[.string (mkS (encL3 v)), .int .i64 0]) ∧ Below w.heap.size w w' := by
  have mk := make_3
  have hnot : bits BinOp.andNot IntKind.u8 224 15 = 224 := by decide
  have i0 := cls_at0
  have i1 := cls_at1
  have i2 := cls_at2
  go_enter Tryd.func116, Tryd.ntmps116
  go_wp2_with (go_at_call 103; refine (classes_any _).mono ?_; rintro e w1 ⟨rfl, hb⟩)
  have HB := Aside0.mk hb
  clear hb
  go_loopw [0, 9] (fun v0 v9 wr => ∃ k : Nat, k ≤ 2 ∧ v9 = .int .i64 k ∧ v0 = .int .i32 v ∧ Aside0 (Below w.heap.size w wr)) (fun _ v9 _ => 4 - (intOf v9).toNat)
  case atStart => exact ⟨0, by omega, rfl, rfl, ⟨HB.out⟩⟩
  case round =>
    obtain ⟨k, hk, rfl, rfl, HW⟩ := hrel
    have hk5 : k = 0 ∨ k = 1 ∨ k = 2 := by omega
    rcases hk5 with rfl | rfl | rfl
    · have hq : utf8_class_within.f 0 127 127 0 127 (v : Int) = some false := by unfold utf8_class_within.f; rw [if_pos (by omega), if_neg (by omega)]
      have Hq := Lib.hid hq
      clear hq
      go_wp2_with (go_at_call 134; refine (utf8_class_within.calls _ _ _ _ _ _ false _ Hq.out).mono ?_; rintro e w2 ⟨rfl, hb2⟩; have HB2 := Aside0.mk hb2; clear hb2)
      go_roundw
      case rel => exact ⟨1, by omega, rfl, rfl, ⟨(HW.out.alloc HW.out.size _).trans (HB2.out.mono (HW.out.alloc HW.out.size _).size)⟩⟩
      case measure => simp [intOf]
    · have hq : utf8_class_within.f 194 223 31 128 2047 (v : Int) = some false := by unfold utf8_class_within.f; rw [if_pos (by omega), if_neg (by omega)]
      have Hq := Lib.hid hq
      clear hq
      go_wp2_with (go_at_call 134; refine (utf8_class_within.calls _ _ _ _ _ _ false _ Hq.out).mono ?_; rintro e w2 ⟨rfl, hb2⟩; have HB2 := Aside0.mk hb2; clear hb2)
      go_roundw
      case rel => exact ⟨2, by omega, rfl, rfl, ⟨(HW.out.alloc HW.out.size _).trans (HB2.out.mono (HW.out.alloc HW.out.size _).size)⟩⟩
      case measure => simp [intOf]
    · have hq : utf8_class_within.f 224 239 15 2048 65535 (v : Int) = some true := by
        unfold utf8_class_within.f; rw [if_pos (by omega), if_pos (by omega)]
        by_cases hv : (v : Int) < 55296
        · rw [if_pos hv]
        · rw [if_neg hv, decide_eq_true (by omega)]
      have Hq := Lib.hid hq
      clear hq
      have hbk := heap_alloc_last wr (.cells #[.int .u8 224, .int .u8 239, .int .u8 15, .int .i32 2048, .int .i32 65535] 128)
      have HBK := Aside0.mk hbk
      clear hbk
      go_wp2_with (go_at_call 134; refine (utf8_class_within.calls _ _ _ _ _ _ true _ Hq.out).mono ?_; rintro e w2 ⟨rfl, hb2⟩; have HB2 := Aside0.mk hb2; clear hb2)
      have HW2 : Aside0 (Below w.heap.size w w2) := ⟨(HW.out.alloc HW.out.size _).trans (HB2.out.mono (HW.out.alloc HW.out.size _).size)⟩
      have hbk2 : w2.heap[wr.heap.size]? = some (.cells #[.int .u8 224, .int .u8 239, .int .u8 15, .int .i32 2048, .int .i32 65535] 128 (0, 0)) := (HB2.out.block _ (by simp)).trans HBK.out
      have hlt2 : wr.heap.size < w2.heap.size := (Array.getElem?_eq_some_iff.1 hbk2).1
      have HBK2 := Aside0.mk hbk2
      have Hlt2 := Lib.hid hlt2
      clear hbk2 hlt2
      go_loopw [0, 7] (fun v0 v7 wi => ∃ j : Nat, j ≤ 2 ∧ v7 = .int .i64 j ∧ Aside0 (wi.heap[wr.heap.size]? = some (.cells #[.int .u8 224, .int .u8 239, .int .u8 15, .int .i32 2048, .int .i32 65535] 128 (0, 0))) ∧ Aside0 (Below w.heap.size w wi) ∧ ((j = 0 ∧ v0 = .int .i32 (((v / 4096 : Nat) : Int)) ∧ Aside0 (BufAt wi w2.heap.size [0, UInt8.ofNat (128 + v / 64 % 64), UInt8.ofNat (128 + v % 64)])) ∨ (j = 1 ∧ v0 = .int .i32 (((v / 64 : Nat) : Int)) ∧ Aside0 (BufAt wi w2.heap.size [0, 0, UInt8.ofNat (128 + v % 64)])) ∨ (j = 2 ∧ v0 = .int .i32 (((v : Nat) : Int)) ∧ Aside0 (BufAt wi w2.heap.size [0, 0, 0])))) (fun _ v7 _ => (intOf v7).toNat)
      case atStart =>
        refine ⟨2, by omega, rfl, ⟨blk_alloc HBK2.out _⟩, ⟨HW2.out.alloc HW2.out.size _⟩, Or.inr (Or.inr (⟨rfl, rfl, ⟨BufAt.zeros w2 3⟩⟩))⟩
      case round =>
        obtain ⟨j, hj, rfl, HC, HWi, hst⟩ := hrel
        rcases hst with ⟨rfl, rfl, HBuf⟩ | ⟨rfl, rfl, HBuf⟩ | ⟨rfl, rfl, HBuf⟩
        · have hcl := (blk_cell HC.out 0).trans rfl
          have hcm := (blk_cell HC.out 2).trans rfl
          have hbc := HBuf.out.cell 0 (by simp)
          have hbf := HBuf.out.free 0 (by simp)
          have hx : ((UInt8.ofNat (224 + v / 4096)).toNat : Int) = 224 + (v : Int) / 4096 := by rw [UInt8.toNat_ofNat']; omega
          have hset := HBuf.out.set (k := 0) (by simp) (UInt8.ofNat (224 + v / 4096))
          rw [hx] at hset
          have hs := hset.string (by simp) 3
          have hs2 : (convert 55 9 (.slice (some ⟨w2.heap.size, 0, none⟩) 3 3)).run Tryd.prog (wr.setCell ⟨w2.heap.size, 0, none⟩ (.int .u8 (224 + (v : Int) / 4096))) = .ok (.string (mkS (encL3 v))) (wr.setCell ⟨w2.heap.size, 0, none⟩ (.int .u8 (224 + (v : Int) / 4096))) := hs
          have Hlt := Lib.hid (Nat.le_of_lt (Nat.lt_of_le_of_lt HW.out.size Hlt2.out))
          clear hset hs hx

          go_wp2
          go_ret2
          exact ⟨rfl, HWi.out.setCell (p := ⟨w2.heap.size, 0, none⟩) Hlt.out _⟩
        · have hbc := HBuf.out.cell 1 (by simp)
          have hbf := HBuf.out.free 1 (by simp)
          have hq1 : v / 64 ≤ 1114111 := by omega
          have hrest : (v / 64 : Nat) / 64 = v / 4096 := by omega
          generalize hqq : v / 64 = q at *
          have Hqq := Lib.hid hqq
          clear hqq

          have hset := HBuf.out.set (k := 1) (by simp) (UInt8.ofNat (128 + q % 64))
          have hand : bits BinOp.and IntKind.i32 (((q : Nat) : Int)) 63 = (((q % 64 : Nat)) : Int) := by rw [show (63 : Int) = 2 ^ 6 - 1 from by decide, bits_mask .i32 31 (by decide) wraps_i32 6 (by decide) _ (by omega) (by omega)]; omega
          have hx : ((UInt8.ofNat (128 + q % 64)).toNat : Int) = 128 + (((q % 64 : Nat)) : Int) := by rw [UInt8.toNat_ofNat']; omega
          rw [hx] at hset
          have hm64 : q % 64 < 64 := by omega
          generalize hmq : q % 64 = m at *
          have hor : bits BinOp.or IntKind.u8 128 (m : Int) = 128 + (m : Int) := u8_or128 _ (by omega) (by omega)
          have Hrest := Lib.hid hrest
          have Hset := Aside0.mk hset
          have Hlt := Lib.hid (Nat.le_of_lt (Nat.lt_of_le_of_lt HW.out.size Hlt2.out))
          clear hx hmq hset hrest
          go_wp2
          go_roundw
          case rel =>
            refine ⟨0, by omega, by go_num, ⟨(Below.heap_setCell _ _ _ _ (by have := Hlt2.out; simp; omega)).trans HC.out⟩, ⟨HWi.out.setCell (p := ⟨w2.heap.size, 1, none⟩) Hlt.out _⟩, Or.inl ⟨rfl, ?_, ⟨Hset.out⟩⟩⟩
            have := Hrest.out
            go_num
          case measure => simp [intOf]
        · have hbc := HBuf.out.cell 2 (by simp)
          have hbf := HBuf.out.free 2 (by simp)
          have hrest : (v : Nat) / 64 = v / 64 := by omega
          have hset := HBuf.out.set (k := 2) (by simp) (UInt8.ofNat (128 + v % 64))
          have hand : bits BinOp.and IntKind.i32 (((v : Nat) : Int)) 63 = (((v % 64 : Nat)) : Int) := by rw [show (63 : Int) = 2 ^ 6 - 1 from by decide, bits_mask .i32 31 (by decide) wraps_i32 6 (by decide) _ (by omega) (by omega)]; omega
          have hx : ((UInt8.ofNat (128 + v % 64)).toNat : Int) = 128 + (((v % 64 : Nat)) : Int) := by rw [UInt8.toNat_ofNat']; omega
          rw [hx] at hset
          have hm64 : v % 64 < 64 := by omega
          generalize hmq : v % 64 = m at *
          have hor : bits BinOp.or IntKind.u8 128 (m : Int) = 128 + (m : Int) := u8_or128 _ (by omega) (by omega)
          have Hrest := Lib.hid hrest
          have Hset := Aside0.mk hset
          have Hlt := Lib.hid (Nat.le_of_lt (Nat.lt_of_le_of_lt HW.out.size Hlt2.out))
          clear hx hmq hset hrest
          go_wp2
          go_roundw
          case rel =>
            refine ⟨1, by omega, by go_num, ⟨(Below.heap_setCell _ _ _ _ (by have := Hlt2.out; simp; omega)).trans HC.out⟩, ⟨HWi.out.setCell (p := ⟨w2.heap.size, 2, none⟩) Hlt.out _⟩, Or.inr (Or.inl ⟨rfl, ?_, ⟨Hset.out⟩⟩)⟩
            have := Hrest.out
            go_num
          case measure => simp [intOf]

theorem make_4 (w : World) : (Instr.makeSlice 55 (.int .i64 4) (.int .i64 4)).run Tryd.prog w = .ok (.slice (some ⟨w.heap.size, 0, none⟩) 4 4) (w.alloc (.cells #[.int .u8 0, .int .u8 0, .int .u8 0, .int .u8 0] 5)) := by
  obtain ⟨i0, hi, hz0, hz1, hz2⟩ := info_parts infoByte
  rw [run_make w 55 5 i0 _ Tryd.underlying55 hi hz0 .i64 .i64 4 4 (by decide) (by decide) (by rw [hz2]; decide) (by decide), hz1, show madeCells (Value.int IntKind.u8 0).cells (((4 : Int)).toNat * 1) = #[.int .u8 0, .int .u8 0, .int .u8 0, .int .u8 0] from by kernel_rfl]
  rfl
def encL4 (v : Nat) : List UInt8 := [UInt8.ofNat (240 + v / 262144), UInt8.ofNat (128 + v / 4096 % 64), UInt8.ofNat (128 + v / 64 % 64), UInt8.ofNat (128 + v % 64)]
set_option maxHeartbeats 2000000 in
set_option maxRecDepth 100000 in
theorem encode_4 (v : Nat) (w : World) (h1 : 65536 ≤ v) (h2 : v ≤ 1114111) (h3 : v < 55296 ∨ 57343 < v) : Calls Tryd.prog 116 #[.int .i32 v] w fun e w' => e = .returned (.tuple #[.string (mkS (encL4 v)), .int .i64 0]) ∧ Below w.heap.size w w' := by
  have mk := make_4
  have hnot : bits BinOp.andNot IntKind.u8 240 7 = 240 := by decide
  have i0 := cls_at0
  have i1 := cls_at1
  have i2 := cls_at2
  have i3 := cls_at3
  go_enter Tryd.func116, Tryd.ntmps116
  go_wp2_with (go_at_call 103; refine (classes_any _).mono ?_; rintro e w1 ⟨rfl, hb⟩)
  have HB := Aside0.mk hb
  clear hb
  go_loopw [0, 9] (fun v0 v9 wr => ∃ k : Nat, k ≤ 3 ∧ v9 = .int .i64 k ∧ v0 = .int .i32 v ∧ Aside0 (Below w.heap.size w wr)) (fun _ v9 _ => 4 - (intOf v9).toNat)
  case atStart => exact ⟨0, by omega, rfl, rfl, ⟨HB.out⟩⟩
  case round =>
    obtain ⟨k, hk, rfl, rfl, HW⟩ := hrel
    have hk5 : k = 0 ∨ k = 1 ∨ k = 2 ∨ k = 3 := by omega
    rcases hk5 with rfl | rfl | rfl | rfl
    · have hq : utf8_class_within.f 0 127 127 0 127 (v : Int) = some false := by unfold utf8_class_within.f; rw [if_pos (by omega), if_neg (by omega)]
      have Hq := Lib.hid hq
      clear hq
      go_wp2_with (go_at_call 134; refine (utf8_class_within.calls _ _ _ _ _ _ false _ Hq.out).mono ?_; rintro e w2 ⟨rfl, hb2⟩; have HB2 := Aside0.mk hb2; clear hb2)
      go_roundw
      case rel => exact ⟨1, by omega, rfl, rfl, ⟨(HW.out.alloc HW.out.size _).trans (HB2.out.mono (HW.out.alloc HW.out.size _).size)⟩⟩
      case measure => simp [intOf]
    · have hq : utf8_class_within.f 194 223 31 128 2047 (v : Int) = some false := by unfold utf8_class_within.f; rw [if_pos (by omega), if_neg (by omega)]
      have Hq := Lib.hid hq
      clear hq
      go_wp2_with (go_at_call 134; refine (utf8_class_within.calls _ _ _ _ _ _ false _ Hq.out).mono ?_; rintro e w2 ⟨rfl, hb2⟩; have HB2 := Aside0.mk hb2; clear hb2)
      go_roundw
      case rel => exact ⟨2, by omega, rfl, rfl, ⟨(HW.out.alloc HW.out.size _).trans (HB2.out.mono (HW.out.alloc HW.out.size _).size)⟩⟩
      case measure => simp [intOf]
    · have hq : utf8_class_within.f 224 239 15 2048 65535 (v : Int) = some false := by unfold utf8_class_within.f; rw [if_pos (by omega), if_neg (by omega)]
      have Hq := Lib.hid hq
      clear hq
      go_wp2_with (go_at_call 134; refine (utf8_class_within.calls _ _ _ _ _ _ false _ Hq.out).mono ?_; rintro e w2 ⟨rfl, hb2⟩; have HB2 := Aside0.mk hb2; clear hb2)
      go_roundw
      case rel => exact ⟨3, by omega, rfl, rfl, ⟨(HW.out.alloc HW.out.size _).trans (HB2.out.mono (HW.out.alloc HW.out.size _).size)⟩⟩
      case measure => simp [intOf]
    · have hq : utf8_class_within.f 240 244 7 65536 1114111 (v : Int) = some true := by
        unfold utf8_class_within.f; rw [if_pos (by omega), if_pos (by omega)]
        by_cases hv : (v : Int) < 55296
        · rw [if_pos hv]
        · rw [if_neg hv, decide_eq_true (by omega)]
      have Hq := Lib.hid hq
      clear hq
      have hbk := heap_alloc_last wr (.cells #[.int .u8 240, .int .u8 244, .int .u8 7, .int .i32 65536, .int .i32 1114111] 128)
      have HBK := Aside0.mk hbk
      clear hbk
      go_wp2_with (go_at_call 134; refine (utf8_class_within.calls _ _ _ _ _ _ true _ Hq.out).mono ?_; rintro e w2 ⟨rfl, hb2⟩; have HB2 := Aside0.mk hb2; clear hb2)
      have HW2 : Aside0 (Below w.heap.size w w2) := ⟨(HW.out.alloc HW.out.size _).trans (HB2.out.mono (HW.out.alloc HW.out.size _).size)⟩
      have hbk2 : w2.heap[wr.heap.size]? = some (.cells #[.int .u8 240, .int .u8 244, .int .u8 7, .int .i32 65536, .int .i32 1114111] 128 (0, 0)) := (HB2.out.block _ (by simp)).trans HBK.out
      have hlt2 : wr.heap.size < w2.heap.size := (Array.getElem?_eq_some_iff.1 hbk2).1
      have HBK2 := Aside0.mk hbk2
      have Hlt2 := Lib.hid hlt2
      clear hbk2 hlt2
      go_loopw [0, 7] (fun v0 v7 wi => ∃ j : Nat, j ≤ 3 ∧ v7 = .int .i64 j ∧ Aside0 (wi.heap[wr.heap.size]? = some (.cells #[.int .u8 240, .int .u8 244, .int .u8 7, .int .i32 65536, .int .i32 1114111] 128 (0, 0))) ∧ Aside0 (Below w.heap.size w wi) ∧ ((j = 0 ∧ v0 = .int .i32 (((v / 262144 : Nat) : Int)) ∧ Aside0 (BufAt wi w2.heap.size [0, UInt8.ofNat (128 + v / 4096 % 64), UInt8.ofNat (128 + v / 64 % 64), UInt8.ofNat (128 + v % 64)])) ∨ (j = 1 ∧ v0 = .int .i32 (((v / 4096 : Nat) : Int)) ∧ Aside0 (BufAt wi w2.heap.size [0, 0, UInt8.ofNat (128 + v / 64 % 64), UInt8.ofNat (128 + v % 64)])) ∨ (j = 2 ∧ v0 = .int .i32 (((v / 64 : Nat) : Int)) ∧ Aside0 (BufAt wi w2.heap.size [0, 0, 0, UInt8.ofNat (128 + v % 64)])) ∨ (j = 3 ∧ v0 = .int .i32 (((v : Nat) : Int)) ∧ Aside0 (BufAt wi w2.heap.size [0, 0, 0, 0])))) (fun _ v7 _ => (intOf v7).toNat)
      case atStart =>
        refine ⟨3, by omega, rfl, ⟨blk_alloc HBK2.out _⟩, ⟨HW2.out.alloc HW2.out.size _⟩, Or.inr (Or.inr (Or.inr (⟨rfl, rfl, ⟨BufAt.zeros w2 4⟩⟩)))⟩
      case round =>
        obtain ⟨j, hj, rfl, HC, HWi, hst⟩ := hrel
        rcases hst with ⟨rfl, rfl, HBuf⟩ | ⟨rfl, rfl, HBuf⟩ | ⟨rfl, rfl, HBuf⟩ | ⟨rfl, rfl, HBuf⟩
        · have hcl := (blk_cell HC.out 0).trans rfl
          have hcm := (blk_cell HC.out 2).trans rfl
          have hbc := HBuf.out.cell 0 (by simp)
          have hbf := HBuf.out.free 0 (by simp)
          have hx : ((UInt8.ofNat (240 + v / 262144)).toNat : Int) = 240 + (v : Int) / 262144 := by rw [UInt8.toNat_ofNat']; omega
          have hset := HBuf.out.set (k := 0) (by simp) (UInt8.ofNat (240 + v / 262144))
          rw [hx] at hset
          have hs := hset.string (by simp) 4
          have hs2 : (convert 55 9 (.slice (some ⟨w2.heap.size, 0, none⟩) 4 4)).run Tryd.prog (wr.setCell ⟨w2.heap.size, 0, none⟩ (.int .u8 (240 + (v : Int) / 262144))) = .ok (.string (mkS (encL4 v))) (wr.setCell ⟨w2.heap.size, 0, none⟩ (.int .u8 (240 + (v : Int) / 262144))) := hs
          have Hlt := Lib.hid (Nat.le_of_lt (Nat.lt_of_le_of_lt HW.out.size Hlt2.out))
          clear hset hs hx

          go_wp2
          go_ret2
          exact ⟨rfl, HWi.out.setCell (p := ⟨w2.heap.size, 0, none⟩) Hlt.out _⟩
        · have hbc := HBuf.out.cell 1 (by simp)
          have hbf := HBuf.out.free 1 (by simp)
          have hq1 : v / 4096 ≤ 1114111 := by omega
          have hrest : (v / 4096 : Nat) / 64 = v / 262144 := by omega
          generalize hqq : v / 4096 = q at *
          have Hqq := Lib.hid hqq
          clear hqq

          have hset := HBuf.out.set (k := 1) (by simp) (UInt8.ofNat (128 + q % 64))
          have hand : bits BinOp.and IntKind.i32 (((q : Nat) : Int)) 63 = (((q % 64 : Nat)) : Int) := by rw [show (63 : Int) = 2 ^ 6 - 1 from by decide, bits_mask .i32 31 (by decide) wraps_i32 6 (by decide) _ (by omega) (by omega)]; omega
          have hx : ((UInt8.ofNat (128 + q % 64)).toNat : Int) = 128 + (((q % 64 : Nat)) : Int) := by rw [UInt8.toNat_ofNat']; omega
          rw [hx] at hset
          have hm64 : q % 64 < 64 := by omega
          generalize hmq : q % 64 = m at *
          have hor : bits BinOp.or IntKind.u8 128 (m : Int) = 128 + (m : Int) := u8_or128 _ (by omega) (by omega)
          have Hrest := Lib.hid hrest
          have Hset := Aside0.mk hset
          have Hlt := Lib.hid (Nat.le_of_lt (Nat.lt_of_le_of_lt HW.out.size Hlt2.out))
          clear hx hmq hset hrest
          go_wp2
          go_roundw
          case rel =>
            refine ⟨0, by omega, by go_num, ⟨(Below.heap_setCell _ _ _ _ (by have := Hlt2.out; simp; omega)).trans HC.out⟩, ⟨HWi.out.setCell (p := ⟨w2.heap.size, 1, none⟩) Hlt.out _⟩, Or.inl ⟨rfl, ?_, ⟨Hset.out⟩⟩⟩
            have := Hrest.out
            go_num
          case measure => simp [intOf]
        · have hbc := HBuf.out.cell 2 (by simp)
          have hbf := HBuf.out.free 2 (by simp)
          have hq1 : v / 64 ≤ 1114111 := by omega
          have hrest : (v / 64 : Nat) / 64 = v / 4096 := by omega
          generalize hqq : v / 64 = q at *
          have Hqq := Lib.hid hqq
          clear hqq

          have hset := HBuf.out.set (k := 2) (by simp) (UInt8.ofNat (128 + q % 64))
          have hand : bits BinOp.and IntKind.i32 (((q : Nat) : Int)) 63 = (((q % 64 : Nat)) : Int) := by rw [show (63 : Int) = 2 ^ 6 - 1 from by decide, bits_mask .i32 31 (by decide) wraps_i32 6 (by decide) _ (by omega) (by omega)]; omega
          have hx : ((UInt8.ofNat (128 + q % 64)).toNat : Int) = 128 + (((q % 64 : Nat)) : Int) := by rw [UInt8.toNat_ofNat']; omega
          rw [hx] at hset
          have hm64 : q % 64 < 64 := by omega
          generalize hmq : q % 64 = m at *
          have hor : bits BinOp.or IntKind.u8 128 (m : Int) = 128 + (m : Int) := u8_or128 _ (by omega) (by omega)
          have Hrest := Lib.hid hrest
          have Hset := Aside0.mk hset
          have Hlt := Lib.hid (Nat.le_of_lt (Nat.lt_of_le_of_lt HW.out.size Hlt2.out))
          clear hx hmq hset hrest
          go_wp2
          go_roundw
          case rel =>
            refine ⟨1, by omega, by go_num, ⟨(Below.heap_setCell _ _ _ _ (by have := Hlt2.out; simp; omega)).trans HC.out⟩, ⟨HWi.out.setCell (p := ⟨w2.heap.size, 2, none⟩) Hlt.out _⟩, Or.inr (Or.inl ⟨rfl, ?_, ⟨Hset.out⟩⟩)⟩
            have := Hrest.out
            go_num
          case measure => simp [intOf]
        · have hbc := HBuf.out.cell 3 (by simp)
          have hbf := HBuf.out.free 3 (by simp)
          have hrest : (v : Nat) / 64 = v / 64 := by omega
          have hset := HBuf.out.set (k := 3) (by simp) (UInt8.ofNat (128 + v % 64))
          have hand : bits BinOp.and IntKind.i32 (((v : Nat) : Int)) 63 = (((v % 64 : Nat)) : Int) := by rw [show (63 : Int) = 2 ^ 6 - 1 from by decide, bits_mask .i32 31 (by decide) wraps_i32 6 (by decide) _ (by omega) (by omega)]; omega
          have hx : ((UInt8.ofNat (128 + v % 64)).toNat : Int) = 128 + (((v % 64 : Nat)) : Int) := by rw [UInt8.toNat_ofNat']; omega
          rw [hx] at hset
          have hm64 : v % 64 < 64 := by omega
          generalize hmq : v % 64 = m at *
          have hor : bits BinOp.or IntKind.u8 128 (m : Int) = 128 + (m : Int) := u8_or128 _ (by omega) (by omega)
          have Hrest := Lib.hid hrest
          have Hset := Aside0.mk hset
          have Hlt := Lib.hid (Nat.le_of_lt (Nat.lt_of_le_of_lt HW.out.size Hlt2.out))
          clear hx hmq hset hrest
          go_wp2
          go_roundw
          case rel =>
            refine ⟨2, by omega, by go_num, ⟨(Below.heap_setCell _ _ _ _ (by have := Hlt2.out; simp; omega)).trans HC.out⟩, ⟨HWi.out.setCell (p := ⟨w2.heap.size, 3, none⟩) Hlt.out _⟩, Or.inr (Or.inr (Or.inl ⟨rfl, ?_, ⟨Hset.out⟩⟩))⟩
            have := Hrest.out
            go_num
          case measure => simp [intOf]
end Go.Proofs.YtfeciafdioepiaaDoor
set_option linter.unusedVariables false
set_option linter.unusedSimpArgs false
namespace Go.Proofs.YtfeciafdioepiaaDoor
open Go.RowKit Go.Shelf Go.Proofs

/-- How the body of a round may be left. -/
def roundEnds {α : Type} (I : List α → World → Prop) (Ix : Code → List α → World → Prop) (xs : List α) (W : World) : Exit → Act → World → Prop
  | .normal, _, W' => KeepsOthers W W' ∧ I xs W'
  | .ret, _, W' => KeepsOthers W W' ∧ Ix .ret xs W'
  | .exit id, _, W' => KeepsOthers W W' ∧ Ix (.exit id) xs W'
  | .goto t, _, W' => KeepsOthers W W' ∧ Ix (.goto t) xs W'
  | .panic _, _, _ => False
  | .outgrown, _, _ => False

/-- What an iterator (function g over the captured lb) does with whatever loop: Mv: how it moves between two rounds; Rd: what it reads; S: all has come; Sp: a part has come. -/
def Iter {α : Type} (P : Program) (g : Nat) (lb : Array Value) (encs : α → Array Value) (In : World → Prop) (Mv : World → World → Prop) (Rd : World → Prop) (S Sp : List α → Prop) (Lt : List α → α → Prop) : Prop :=
  ∀ (n l : Nat) (J Jx : List α → World → Prop) (W : World), (∀ pre W W', J pre W → Mv W W' → J pre W') → (∀ pre W, J pre W → Rd W) →
    (∀ pre x W1, J pre W1 → Lt pre x → YieldAt Fence.wide (n - 1) P l (encs x) W1 fun e W' =>
      (e = .returned (.bool true) ∧ J (pre ++ [x]) W') ∨ (e = .returned (.bool false) ∧ Jx (pre ++ [x]) W')) →
    J [] W → In W →
    CallsIn Fence.wide n P g (#[.func (.yield l) #[] #[]] ++ lb) W fun e W' => (∃ v, e = .returned v) ∧ ((∃ xs, S xs ∧ J xs W') ∨ (∃ pre, Sp pre ∧ Jx pre W'))

theorem range_law {α : Type} {n : Nat} {P : Program} {g : Operand} {ps : Array Tmp} {assign body : Code} {Q : Exit → Act → World → Prop} {a : Act} {w : World}
    {gf : Nat} {lb : Array Value} (hg : a.eval g = .func (.func gf) #[] lb) (eg : ∀ args w, (callFunc gf args).run P w = .ok (.enter gf args) w)
    {encs : α → Array Value} {In : World → Prop} {Mv : World → World → Prop} {Rd : World → Prop} {S Sp : List α → Prop} {Lt : List α → α → Prop} (hseq : Iter P gf lb encs In Mv Rd S Sp Lt)
    (hMv : ∀ W W', Mv W W' → KeepsOthers W W') (hps : ∀ x, (encs x).size = ps.size)
    (I : List α → World → Prop) (Ix : Code → List α → World → Prop) (hIm : ∀ pre W W', I pre W → Mv W W' → I pre W') (hIr : ∀ pre W, I pre W → Rd W)
    (hIp : ∀ pre W l o, w.heap.size ≤ l → I pre W → I pre (W.putObj l o)) (hIxp : ∀ c pre W l o, w.heap.size ≤ l → Ix c pre W → Ix c pre (W.putObj l o))
    (h0 : ∀ o o', I [] ((w.alloc o).alloc o')) (hin : ∀ o o', In ((w.alloc o).alloc o')) (a₁ : α → Act)
    (hassign : ∀ (l : Nat) (x : α) (W : World) (K : Act → World → Prop), K (a₁ x) W →
      assign.wpIn (Fence.wide.inRound l) (n - 1 - 1) P (Exit.then K (fun _ _ _ => False)) { tmps := (ps.zip (encs x)).foldl (fun t (p, v) => t.setIfInBounds p v) a.tmps, defers := [] } W)
    (hbody : ∀ (l : Nat) (pre : List α) (x : α) (W : World), I pre W → Lt pre x → body.wpIn (Fence.wide.inRound l) (n - 1 - 1) P (roundEnds I Ix (pre ++ [x]) W) (a₁ x) W)
    (hdone : ∀ (D : Nat) (xs : List α) (W : World), w.heap.size ≤ D → S xs → I xs W → W.heap[D]? = some (.deferred (some [])) → Q .normal { a with defers := { target := .collected D, args := #[] } :: a.defers } W)
    (hstop : ∀ (D : Nat) (c : Code) (pre : List α) (W : World), w.heap.size ≤ D → Sp pre → Ix c pre W → W.heap[D]? = some (.deferred (some [])) → c.wpIn Fence.wide n P Q { a with defers := { target := .collected D, args := #[] } :: a.defers } W) :
    (Code.rangeFunc g ps assign body).wpIn Fence.wide n P Q a w := by
  refine wpIn_rangeFunc fun fn hfn => ?_
  generalize hD : w.heap.size = D at *
  let R : LoopState → Option Code → Obj := fun st pe => .loop { state := st, pending := pe, fn, tmps := a.tmps, params := ps, assign, body, defers := D }
  let W1 := (w.alloc (.deferred (some []))).alloc (R .ready none)
  have hL : W1.heap[D + 1]? = some (R .ready none) := by
    have := World.alloc_heap_new (w.alloc (.deferred (some []))) (R .ready none)
    rwa [World.size_alloc, hD] at this
  have hK : W1.heap[D]? = some (.deferred (some [])) := by
    have h1 : (w.alloc (.deferred (some []))).heap[D]? = some (.deferred (some [])) := by rw [← hD]; exact World.alloc_heap_new w _
    exact (Below.heap_alloc _ _ _ (by rw [World.size_alloc, hD]; omega)).trans h1
  -- what the iterator is told to keep, and what holds where a round has stopped it
  let J : List α → World → Prop := fun pre W => I pre W ∧ W.heap[D + 1]? = some (R .ready none) ∧ W.heap[D]? = some (.deferred (some []))
  let Jx : List α → World → Prop := fun pre W => ∃ c, Ix c pre W ∧ W.heap[D + 1]? = some (R .done (some c)) ∧ W.heap[D]? = some (.deferred (some []))
  have hit := hseq (n - 1) (D + 1) J Jx W1
    (fun pre W W' h hm => ⟨hIm _ _ _ h.1 hm, (hMv _ _ hm).same _ _ h.2.1 rfl, (hMv _ _ hm).same _ _ h.2.2 rfl⟩) (fun pre W h => hIr _ _ h.1)
  refine ⟨D + 1, [{ target := .collected D, args := #[] }], W1, { target := .fn (.func gf) lb, args := #[.func (.yield (D + 1)) #[] #[]] }, W1, gf, #[.func (.yield (D + 1)) #[] #[]] ++ lb, W1, ?_, ?_, fun _ _ => trivial, ?_, (fun h => nomatch h), ?_⟩
  · have := run_enterLoop_outer (P := P) (w := w) fn a.tmps ps assign body
    rw [hD] at this
    exact this
  · simp only [resolve, hg]
    simp [go_sem]
  · simp [invoke, go_sem, eg]
  refine (hit ?_ ⟨h0 _ _, hL, hK⟩ (hin _ _)).mono ?_
  · -- a round
    rintro pre x W ⟨hi, hl, hk⟩ hlt
    have hsz : D + 1 < W.heap.size := (Array.getElem?_eq_some_iff.1 hl).1
    refine ⟨fn, _, assign, body, run_yield hl (hps x), roundIn_of_wpIn hfn (hassign _ x W _ ⟨_, run_beginRound hl rfl, ?_⟩)⟩
    have hl2 : (W.putObj (D + 1) (R .busy none)).heap[D + 1]? = some (R .busy none) := World.putObj_heap_same hsz
    have hk2 : (W.putObj (D + 1) (R .busy none)).heap[D]? = some (.deferred (some [])) := (World.putObj_heap_other (by omega)).trans hk
    refine wpIn_mono (hbody _ pre x _ (hIp _ _ _ _ (by omega) hi) hlt) ?_
    -- the record behind the round, whatever the jump
    have after : ∀ (jump : Option Code) (W3 : World), KeepsOthers (W.putObj (D + 1) (R .busy none)) W3 →
        (Instr.endRound (D + 1) jump).run P W3 = .ok (.bool jump.isNone) (W3.putObj (D + 1) (R (if jump.isNone then .ready else .done) jump)) ∧
        (W3.putObj (D + 1) (R (if jump.isNone then .ready else .done) jump)).heap[D + 1]? = some (R (if jump.isNone then .ready else .done) jump) ∧
        (W3.putObj (D + 1) (R (if jump.isNone then .ready else .done) jump)).heap[D]? = some (.deferred (some [])) := fun jump W3 hk3 =>
      ⟨run_endRound jump (hk3.same _ _ hl2 rfl), World.putObj_heap_same (Array.getElem?_eq_some_iff.1 (hk3.same _ _ hl2 rfl)).1, (World.putObj_heap_other (by omega)).trans (hk3.same _ _ hk2 rfl)⟩
    rintro e a3 W3 hp
    have stops : ∀ c, KeepsOthers (W.putObj (D + 1) (R .busy none)) W3 → Ix c (pre ++ [x]) W3 → ∃ v w', (Instr.endRound (D + 1) (some c)).run P W3 = .ok v w' ∧ ((Ending.returned v = .returned (.bool true) ∧ J (pre ++ [x]) w') ∨ (Ending.returned v = .returned (.bool false) ∧ Jx (pre ++ [x]) w')) := by
      intro c hk3 hx
      obtain ⟨e1, e2, e3⟩ := after (some c) W3 hk3
      exact ⟨_, _, e1, .inr ⟨rfl, c, hIxp _ _ _ _ _ (by omega) hx, e2, e3⟩⟩
    cases e with
    | normal =>
      obtain ⟨hk3, hi3⟩ := hp
      obtain ⟨e1, e2, e3⟩ := after none W3 hk3
      exact ⟨_, _, e1, .inl ⟨rfl, hIp _ _ _ _ (by omega) hi3, e2, e3⟩⟩
    | ret => exact stops _ hp.1 hp.2
    | exit id => exact stops _ hp.1 hp.2
    | goto t => exact stops _ hp.1 hp.2
    | panic ch => exact hp.elim
    | outgrown => exact hp.elim
  · -- behind the iterator
    rintro e W2 ⟨⟨v, rfl⟩, (⟨xs, hS, hi, hl, hk⟩ | ⟨pre, hSp, c, hi, hl, hk⟩)⟩
    · exact ⟨none, _, run_endLoop hl (by simp), hdone _ xs _ (Nat.le_refl _) hS (hIp _ _ _ _ (by omega) hi) ((World.putObj_heap_other (by omega)).trans hk)⟩
    · exact ⟨some c, _, run_endLoop hl (by simp), hstop _ c pre _ (Nat.le_refl _) hSp (hIxp _ _ _ _ _ (by omega) hi) ((World.putObj_heap_other (by omega)).trans hk)⟩
end Go.Proofs.YtfeciafdioepiaaDoor
set_option linter.unusedVariables false
set_option linter.unusedSimpArgs false
namespace Go.Proofs.YtfeciafdioepiaaDoor
open Go.RowKit Go.Shelf Go.Proofs Go.Proofs.YtfeciafdioepiaaDoorW.PrintWords Go.Proofs.YtfeciafdioepiaaDoorW.PrintMore Go.Proofs.YtfeciafdioepiaaDoor.PA

/-- The code points of bytes with their offsets, and where the first error is; f: more than enough rounds. -/
def runesG : Nat → Nat → List UInt8 → List (Nat × Nat) × Option Nat
  | 0, _, _ => ([], none)
  | f + 1, k, l => if l = [] then ([], none) else match decR l with
    | none => ([], some k)
    | some (v, n) => ((k, v) :: (runesG f (k + n) (l.drop n)).1, (runesG f (k + n) (l.drop n)).2)
def runesU (l : List UInt8) : List (Nat × Nat) × Option Nat := runesG l.length 0 l
theorem decR_pos {l : List UInt8} {v n : Nat} (h : decR l = some (v, n)) : 1 ≤ n ∧ n ≤ l.length ∧ n ≤ 4 ∧ v ≤ 1114111 := by
  cases l with
  | nil => simp [decR] at h
  | cons c l =>
    simp only [decR] at h
    have hs := (sizeU_of c).1
    split at h
    · cases h
    · rename_i hc
      split at h
      · rename_i hok
        injection h with h
        injection h with h1 h2
        rw [← h1, ← h2]
        refine ⟨by omega, by omega, by omega, ?_⟩
        unfold okAll okVal at hok
        simp only [Bool.and_eq_true, decide_eq_true_iff] at hok
        have := hok.2.1.2
        refine Nat.le_trans this ?_
        unfold maxU
        split <;> omega
      · cases h
theorem runesG_nil (f k : Nat) : runesG f k [] = ([], none) := by cases f <;> simp [runesG]
theorem runesG_none {f k : Nat} {l : List UInt8} (h0 : l ≠ []) (h : decR l = none) : runesG (f + 1) k l = ([], some k) := by
  simp only [runesG]; rw [if_neg h0, h]
theorem runesG_some {f k : Nat} {l : List UInt8} {v n : Nat} (h : decR l = some (v, n)) : runesG (f + 1) k l = ((k, v) :: (runesG f (k + n) (l.drop n)).1, (runesG f (k + n) (l.drop n)).2) := by
  have h0 : l ≠ [] := by intro e; subst e; simp [decR] at h
  simp only [runesG]; rw [if_neg h0, h]
def CheckPost (s : ByteArray) (e : Ending) : Prop :=
  match (runesU s.data.toList).2 with
  | none => e = .returned (.tuple #[.int .i64 0, .int .i64 0])
  | some p => ∃ c : Int, c ≠ 0 ∧ e = .returned (.tuple #[.int .i64 p, .int .i64 c])
theorem CheckPost.ok {s : ByteArray} (h : (runesU s.data.toList).2 = none) : CheckPost s (.returned (.tuple #[.int .i64 0, .int .i64 0])) := by unfold CheckPost; rw [h]
theorem CheckPost.bad {s : ByteArray} {p : Nat} (h : (runesU s.data.toList).2 = some p) (c : Int) (hc : c ≠ 0) : CheckPost s (.returned (.tuple #[.int .i64 p, .int .i64 c])) := by unfold CheckPost; rw [h]; exact ⟨c, hc, rfl⟩
theorem FirstPost.cases {s : ByteArray} {e : Ending} (h : FirstPost s e) : (∃ v n, decR s.data.toList = some (v, n) ∧ e = .returned (.tuple #[.int .i32 v, .int .i64 n, .int .i64 0])) ∨ (decR s.data.toList = none ∧ ∃ c : Int, c ≠ 0 ∧ e = .returned (.tuple #[.int .i32 0, .int .i64 0, .int .i64 c])) := by
  unfold FirstPost at h
  split at h
  · rename_i v n hd; exact .inl ⟨v, n, hd, h⟩
  · rename_i hd; exact .inr ⟨hd, h⟩
theorem extract_tail (s : ByteArray) (k : Nat) : (s.extract k s.size).data.toList = s.data.toList.drop k := by
  rw [extract_mk, mkS_toList]
  have : s.data.toList.length = s.size := by simp
  rw [List.take_of_length_le]; rw [List.length_drop]; omega

set_option maxHeartbeats 1000000 in
set_option maxRecDepth 100000 in
theorem check_any (s : ByteArray) (w : World) (hs : s.size ≤ 140737488355328) : Calls Tryd.prog 79 #[.string s] w fun e w' => CheckPost s e ∧ Below w.heap.size w w' := by
  have hlen : s.data.toList.length = s.size := by simp
  have Hlen := Lib.hid hlen
  clear hlen
  go_enter Tryd.func79, Tryd.ntmps79
  go_wp2
  go_loopw [4] (fun v4 wr => ∃ k f : Nat, k ≤ s.size ∧ v4 = .int .i64 k ∧ Aside0 (s.size - k ≤ f ∧ (runesG f k (s.data.toList.drop k)).2 = (runesU s.data.toList).2) ∧ Aside0 (Below w.heap.size w wr)) (fun v4 _ => s.size - (intOf v4).toNat)
  case atStart => exact ⟨0, s.size, Nat.zero_le _, rfl, ⟨by omega, by unfold runesU; rw [Hlen.out]; rfl⟩, ⟨Below.refl _ _⟩⟩
  case round =>
    obtain ⟨k, f, hk, rfl, HF, HW⟩ := hrel
    by_cases hlt : k < s.size
    · have hx := first_any (s.extract k s.size) wr (by rw [ByteArray.size_extract]; omega) (by rw [ByteArray.size_extract]; omega)
      have hl0 : s.data.toList.drop k ≠ [] := by intro h0; have := congrArg List.length h0; rw [List.length_drop, Hlen.out] at this; simp at this; omega
      have Hx := Lib.hid hx
      have Hl0 := Lib.hid hl0
      clear hx hl0
      go_wp2_with (go_at_call 80; refine Hx.out.mono ?_; rintro e w1 ⟨hp, hb⟩; have HB := Aside0.mk hb; clear hb; rcases hp.cases with ⟨v, n, hd, rfl⟩ | ⟨hd, c, hc, rfl⟩)
      · have hd' := hd
        rw [extract_tail] at hd'
        have hp := decR_pos hd'
        rw [List.length_drop] at hp
        have Hd := Lib.hid hd'
        clear hd hd'
        have hpp := Hlen.out
        have h1 : k + n ≤ s.size := by omega
        clear hpp
        have hw : wrap64 ((k : Int) + (n : Int)) = ((k + n : Nat) : Int) := by unfold wrap64; omega
        rw [hw]
        have hfu := HF.out
        obtain ⟨f', rfl⟩ : ∃ f', f = f' + 1 := ⟨f - 1, by omega⟩
        rw [runesG_some Hd.out, List.drop_drop] at hfu
        have Hfu := Lib.hid hfu
        clear hfu
        go_roundw
        case rel => exact ⟨k + n, f', h1, rfl, ⟨by have := Hfu.out.1; omega, Hfu.out.2⟩, ⟨HW.out.trans (HB.out.mono HW.out.size)⟩⟩
        case measure => simp [intOf]; omega
      · rw [extract_tail] at hd
        go_ret2
        have hfu := HF.out
        obtain ⟨f', rfl⟩ : ∃ f', f = f' + 1 := ⟨f - 1, by omega⟩
        rw [runesG_none Hl0.out hd] at hfu
        exact ⟨CheckPost.bad hfu.2.symm c hc, HW.out.trans (HB.out.mono HW.out.size)⟩
    · go_wp2
      go_ret2
      refine ⟨CheckPost.ok ?_, HW.out⟩
      have := HF.out.2
      rw [List.drop_eq_nil_of_le (by rw [Hlen.out]; omega), runesG_nil] at this
      exact this.symm

def validU (l : List UInt8) : Bool := (runesU l).2.isNone
set_option maxHeartbeats 1000000 in
set_option maxRecDepth 100000 in
theorem valid_any (s : ByteArray) (w : World) (hs : s.size ≤ 140737488355328) : Calls Tryd.prog 46 #[.string s] w fun e w' => e = .returned (.bool (validU s.data.toList)) ∧ Below w.heap.size w w' := by
  have hx := check_any s w hs
  unfold CheckPost at hx
  unfold validU
  generalize hr : (runesU s.data.toList).2 = r at *
  cases r with
  | none =>
    have Hx := Lib.hid hx
    clear hx hr
    go_enter Tryd.func46, Tryd.ntmps46
    go_wp2_with (go_at_call 79; refine Hx.out.mono ?_; rintro e w1 ⟨rfl, hb⟩; have HB := Aside0.mk hb; clear hb)
    go_ret
    exact ⟨rfl, HB.out⟩
  | some p =>
    have Hx := Lib.hid hx
    clear hx hr
    go_enter Tryd.func46, Tryd.ntmps46
    go_wp2_with (go_at_call 79; refine Hx.out.mono ?_; rintro e w1 ⟨⟨c, hc, rfl⟩, hb⟩; have HB := Aside0.mk hb; clear hb)
    go_ret
    have : ((c : Int) == 0) = false := by simpa using hc
    exact ⟨by rw [this]; rfl, HB.out⟩
set_option maxHeartbeats 1000000 in
set_option maxRecDepth 100000 in
theorem runes_any (s : ByteArray) (w : World) : Calls Tryd.prog 115 #[.string s] w fun e w' => e = .returned (.func (.func 133) #[] #[.pointer (some ⟨w.heap.size, 0, none⟩)]) ∧ w' = w.alloc (.cells #[.string s] 9) := by
  go_enter Tryd.func115, Tryd.ntmps115
  go_wp2
  go_ret
  exact ⟨rfl, rfl⟩
end Go.Proofs.YtfeciafdioepiaaDoor
set_option linter.unusedVariables false
set_option linter.unusedSimpArgs false
namespace Go.Proofs.YtfeciafdioepiaaDoor
open Go.RowKit Go.Shelf Go.Proofs Go.Proofs.YtfeciafdioepiaaDoorW.PrintWords Go.Proofs.YtfeciafdioepiaaDoorW.PrintMore Go.Proofs.YtfeciafdioepiaaDoor.PA
attribute [local go_sem] Oper.semAt_some

set_option maxHeartbeats 1000000 in
set_option maxRecDepth 100000 in
theorem runes_iter (s : ByteArray) (b : Nat) (hs : s.size ≤ 140737488355328) :
    Iter Tryd.prog 133 #[.pointer (some ⟨b, 0, none⟩)] (fun x : Nat × Nat => #[.int .i64 x.1, .int .i32 x.2]) (fun _ => True) (fun W W' => Below W.heap.size W W') (fun W => W.cell? ⟨b, 0, none⟩ = some (.string s))
      (fun xs => xs = (runesU s.data.toList).1) (fun pre => pre <+: (runesU s.data.toList).1) (fun pre x => pre ++ [x] <+: (runesU s.data.toList).1) := by
  intro n l J Jx W hm hr hY h0 _
  have hlen : s.data.toList.length = s.size := by simp
  have Hlen := Lib.hid hlen
  have Hm := Lib.hid hm
  have Hr := Lib.hid hr
  have HY := Lib.hid hY
  clear hlen hm hr hY
  refine callsIn_of_wp Tryd.func133 rfl trivial ?_ rfl
  simp only [Tryd.ntmps133, List.size_toArray, List.length_cons, List.length_nil, Nat.reduceAdd, Nat.reduceSub, Array.replicate_succ, Array.replicate_zero, List.push_toArray, List.append_toArray, List.nil_append, List.cons_append]
  gi_wp2
  gi_loopw [3] (fun v3 wr => ∃ (k f : Nat) (pre : List (Nat × Nat)), k ≤ s.size ∧ v3 = .int .i64 k ∧ Aside0 (s.size - k ≤ f ∧ (runesU s.data.toList).1 = pre ++ (runesG f k (s.data.toList.drop k)).1) ∧ Aside0 (J pre wr)) (fun v3 _ => s.size - (intOf v3).toNat)
  case atStart => exact ⟨0, s.size, [], Nat.zero_le _, rfl, ⟨by omega, by unfold runesU; rw [Hlen.out]; rfl⟩, ⟨h0⟩⟩
  case round =>
    obtain ⟨k, f, pre, hk, rfl, HF, HJ⟩ := hrel
    have hcell := Hr.out _ _ HJ.out
    by_cases hlt : k < s.size
    · have hx := first_any (s.extract k s.size) wr (by rw [ByteArray.size_extract]; omega) (by rw [ByteArray.size_extract]; omega)
      have hl0 : s.data.toList.drop k ≠ [] := by intro h0; have := congrArg List.length h0; rw [List.length_drop, Hlen.out] at this; simp at this; omega
      have Hx := Lib.hid hx
      have Hl0 := Lib.hid hl0
      clear hx hl0
      gi_wp2_with (refine ⟨trivial, (fun h => nomatch h), ?_⟩; gi_at_call 80; refine (callsIn_wide.2 Hx.out).mono ?_; rintro e w1 ⟨hp, hb⟩; have HB := Aside0.mk hb; clear hb; rcases hp.cases with ⟨v, nn, hd, rfl⟩ | ⟨hd, c, hc, rfl⟩)
      · have hd' := hd
        rw [extract_tail] at hd'
        have hp' := decR_pos hd'
        rw [List.length_drop] at hp'
        have hpp := Hlen.out
        have h1 : k + nn ≤ s.size := by omega
        clear hpp
        have hfu := HF.out
        obtain ⟨f', rfl⟩ : ∃ f', f = f' + 1 := ⟨f - 1, by omega⟩
        rw [runesG_some hd', List.drop_drop] at hfu
        have hJ1 := Hm.out pre wr w1 HJ.out HB.out
        obtain ⟨fn, tmps, assign, body, hy, hR⟩ := HY.out pre (k, v) w1 hJ1 (by rw [hfu.2]; exact ⟨(runesG f' (k + nn) (s.data.toList.drop (k + nn))).1, by simp⟩)
        have hw : wrap64 ((k : Int) + (nn : Int)) = ((k + nn : Nat) : Int) := by unfold wrap64; omega
        have Hfu := Lib.hid hfu
        have HJ1 := Aside0.mk hJ1
        clear hd hd' hp hfu hJ1 hcell
        dsimp only at hy
        gi_wp2
        refine ⟨(fun h => nomatch h), hR.mono ?_⟩
        rintro e W3 (⟨rfl, hJ3⟩ | ⟨rfl, hJx3⟩)
        · gi_wp2
          go_roundw
          case rel => exact ⟨k + nn, f', pre ++ [(k, v)], h1, by go_num, ⟨by have := Hfu.out.1; omega, by rw [Hfu.out.2]; simp⟩, ⟨hJ3⟩⟩
          case measure => simp [intOf]; omega
        · gi_wp2
          refine bodyPost_ret (results_none rfl _ _ _) rfl ?_
          exact ⟨⟨_, rfl⟩, .inr ⟨pre ++ [(k, v)], by rw [Hfu.out.2]; exact ⟨(runesG f' (k + nn) (s.data.toList.drop (k + nn))).1, by simp⟩, hJx3⟩⟩
      · have hcb : (c != 0) = true := by rw [bne_iff_ne]; exact hc
        rw [extract_tail] at hd
        refine ⟨fun _ h => (by cases h), ?_⟩
        gi_wp2
        refine bodyPost_ret (results_none rfl _ _ _) rfl ?_
        have hfu := HF.out
        obtain ⟨f', rfl⟩ : ∃ f', f = f' + 1 := ⟨f - 1, by omega⟩
        rw [runesG_none Hl0.out hd] at hfu
        exact ⟨⟨_, rfl⟩, .inl ⟨pre, by rw [hfu.2]; simp, Hm.out pre wr w1 HJ.out HB.out⟩⟩
    · gi_wp2
      go_end0
      refine ⟨⟨_, rfl⟩, .inl ⟨pre, ?_, HJ.out⟩⟩
      have := HF.out.2
      rw [List.drop_eq_nil_of_le (by rw [Hlen.out]; omega), runesG_nil] at this
      rw [this]; simp
end Go.Proofs.YtfeciafdioepiaaDoor
