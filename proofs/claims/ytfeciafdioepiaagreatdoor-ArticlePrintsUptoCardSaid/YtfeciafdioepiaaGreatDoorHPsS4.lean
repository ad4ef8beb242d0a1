/- The contracts of utf8's classes, sizeOf, begins, first over this translation.; The contracts of utf8's begins, first over this translation.; The contract of utf8's first over this translation. -/
import Derived.Test.YtfeciafdioepiaaGreatDoorHPsS3
import Derived.Great.BuildSlice
import Derived.Deep.WholeRow
set_option linter.unusedVariables false
set_option linter.unusedSimpArgs false
namespace Go.Proofs.YtfeciafdioepiaaGreatDoor
open Go.RowKit Go.Proofs Go.Proofs.YtfeciafdioepiaaGreatDoorW.PrintWords Go.Proofs.YtfeciafdioepiaaGreatDoor.PA

/-- How many bytes an encoding has that begins with a byte. -/
def sizeU (c : UInt8) : Nat := if c ≤ 127 then 1 else if 194 ≤ c ∧ c ≤ 223 then 2 else if 224 ≤ c ∧ c ≤ 239 then 3 else if 240 ≤ c ∧ c ≤ 244 then 4 else 0
theorem results_cell {P : Program} {fn : Func} {p : Tmp} {ty : TypeId} (h : fn.results = #[.cell p ty]) {tmps : Array Value} {w : World} {ad : Addr} {v : Value} (hp : tmps.getD p undef = .pointer (some ad)) (hl : (loadVar ty ad).run P w = .ok v w) :
    (results fn tmps).run P w = .ok v w := by
  rw [Array.getD_eq_getD_getElem?] at hp
  simp only [results, h]
  simp [Sem.run_bind, Result.andThen, hp, asAddr, hl]
def clsCells : Array Value := #[.int .u8 0, .int .u8 127, .int .u8 127, .int .i32 0, .int .i32 127, .int .u8 194, .int .u8 223, .int .u8 31, .int .i32 128, .int .i32 2047, .int .u8 224, .int .u8 239, .int .u8 15, .int .i32 2048, .int .i32 65535, .int .u8 240, .int .u8 244, .int .u8 7, .int .i32 65536, .int .i32 1114111]
def clsZero : Array Value := #[.int .u8 0, .int .u8 0, .int .u8 0, .int .i32 0, .int .i32 0, .int .u8 0, .int .u8 0, .int .u8 0, .int .i32 0, .int .i32 0, .int .u8 0, .int .u8 0, .int .u8 0, .int .i32 0, .int .i32 0, .int .u8 0, .int .u8 0, .int .u8 0, .int .i32 0, .int .i32 0]

set_option maxHeartbeats 1000000 in
set_option maxRecDepth 100000 in
theorem classes_any (w : World) : Calls Tryz.prog 93 #[] w fun e w' => e = .returned (.agg clsCells) ∧ Below w.heap.size w w' := by
  go_enter Tryz.func93, Tryz.ntmps93
  go_wp2_with (first
    | refine wpList_buildTo rfl 130 _ rfl _ rfl #[.int .u8 0, .int .u8 127, .int .u8 127, .int .i32 0, .int .i32 127] (by as_aux_lemma => kernel_rfl) ?_
    | refine wpList_buildTo rfl 130 _ rfl _ rfl #[.int .u8 194, .int .u8 223, .int .u8 31, .int .i32 128, .int .i32 2047] (by as_aux_lemma => kernel_rfl) ?_
    | refine wpList_buildTo rfl 130 _ rfl _ rfl #[.int .u8 224, .int .u8 239, .int .u8 15, .int .i32 2048, .int .i32 65535] (by as_aux_lemma => kernel_rfl) ?_
    | refine wpList_buildTo rfl 130 _ rfl _ rfl #[.int .u8 240, .int .u8 244, .int .u8 7, .int .i32 65536, .int .i32 1114111] (by as_aux_lemma => kernel_rfl) ?_
    | refine wpList_buildTo rfl 131 _ rfl _ rfl clsCells (by as_aux_lemma => kernel_rfl) ?_
    | refine wpList_store_rowTo rfl 131 _ _ rfl rfl w.heap.size clsCells rfl rfl 131 clsZero ?hg ?hi ?hold ?h1 ?_)
  case hg => exact heap_alloc_last w _
  case hi => exact (by as_aux_lemma => kernel_rfl)
  case hold => rfl
  case h1 => exact (by as_aux_lemma => kernel_rfl)
  rw [World.setRow_alloc_new]
  refine bodyPost_ret (v := .agg clsCells) ?_ rfl ⟨rfl, (Below.refl _ _).alloc (Nat.le_refl _) _⟩
  exact results_cell Tryz.results93 rfl (run_loadVar_new w 131 clsCells 4 130 Tryz.underlying131 (by as_aux_lemma => kernel_rfl))

theorem sizeU_eq (c : UInt8) : sizeU c = if c.toNat ≤ 127 then 1 else if 194 ≤ c.toNat ∧ c.toNat ≤ 223 then 2 else if 224 ≤ c.toNat ∧ c.toNat ≤ 239 then 3 else if 240 ≤ c.toNat ∧ c.toNat ≤ 244 then 4 else 0 := by
  unfold sizeU
  simp only [UInt8.le_iff_toNat_le]
  rfl
theorem sizeU_of (c : UInt8) : (sizeU c = 0 ∨ sizeU c = 1 ∧ c.toNat ≤ 127 ∨ sizeU c = 2 ∧ 194 ≤ c.toNat ∧ c.toNat ≤ 223 ∨ sizeU c = 3 ∧ 224 ≤ c.toNat ∧ c.toNat ≤ 239 ∨ sizeU c = 4 ∧ 240 ≤ c.toNat ∧ c.toNat ≤ 244) ∧
    (sizeU c = 0 → 128 ≤ c.toNat ∧ (c.toNat < 194 ∨ 244 < c.toNat)) := by
  have h := sizeU_eq c
  by_cases h1 : c.toNat ≤ 127
  · rw [if_pos h1] at h; omega
  · rw [if_neg h1] at h
    by_cases h2 : 194 ≤ c.toNat ∧ c.toNat ≤ 223
    · rw [if_pos h2] at h; omega
    · rw [if_neg h2] at h
      by_cases h3 : 224 ≤ c.toNat ∧ c.toNat ≤ 239
      · rw [if_pos h3] at h; omega
      · rw [if_neg h3] at h
        by_cases h4 : 240 ≤ c.toNat ∧ c.toNat ≤ 244
        · rw [if_pos h4] at h; omega
        · rw [if_neg h4] at h; omega
theorem cls_at0 (w : World) : (Instr.index 131 (.agg clsCells) (.int .i64 0)).run Tryz.prog w = .ok (.agg #[.int .u8 0, .int .u8 127, .int .u8 127, .int .i32 0, .int .i32 127]) w := by
  simp [Instr.index, run_underlying Tryz.underlying131, asIntOf, go_sem, Tryz.sizeOf130]
  rfl
theorem cls_at1 (w : World) : (Instr.index 131 (.agg clsCells) (.int .i64 1)).run Tryz.prog w = .ok (.agg #[.int .u8 194, .int .u8 223, .int .u8 31, .int .i32 128, .int .i32 2047]) w := by
  simp [Instr.index, run_underlying Tryz.underlying131, asIntOf, go_sem, Tryz.sizeOf130]
  rfl
theorem cls_at2 (w : World) : (Instr.index 131 (.agg clsCells) (.int .i64 2)).run Tryz.prog w = .ok (.agg #[.int .u8 224, .int .u8 239, .int .u8 15, .int .i32 2048, .int .i32 65535]) w := by
  simp [Instr.index, run_underlying Tryz.underlying131, asIntOf, go_sem, Tryz.sizeOf130]
  rfl
theorem cls_at3 (w : World) : (Instr.index 131 (.agg clsCells) (.int .i64 3)).run Tryz.prog w = .ok (.agg #[.int .u8 240, .int .u8 244, .int .u8 7, .int .i32 65536, .int .i32 1114111]) w := by
  simp [Instr.index, run_underlying Tryz.underlying131, asIntOf, go_sem, Tryz.sizeOf130]
  rfl
set_option maxHeartbeats 1000000 in
set_option maxRecDepth 100000 in
theorem sizeOf_any (c : UInt8) (w : World) : Calls Tryz.prog 123 #[.int .u8 c.toNat] w fun e w' => e = .returned (.int .i64 (sizeU c)) ∧ Below w.heap.size w w' := by
  have hlt : c.toNat < 256 := c.toNat_lt
  have hs := sizeU_of c
  have Hs := Lib.hid hs
  clear hs
  have i0 := cls_at0
  have i1 := cls_at1
  have i2 := cls_at2
  have i3 := cls_at3
  go_enter Tryz.func123, Tryz.ntmps123
  go_wp2_with (go_at_call 93; refine (classes_any _).mono ?_; rintro e w1 ⟨rfl, hb⟩)
  have HB := Aside0.mk hb
  clear hb
  go_loopw [6] (fun v6 wr => ∃ k : Nat, k ≤ 4 ∧ v6 = .int .i64 k ∧ Aside0 (sizeU c = 0 ∨ k < sizeU c) ∧ Aside0 (Below w.heap.size w wr)) (fun v6 _ => 4 - (intOf v6).toNat)
  case atStart => exact ⟨0, by omega, rfl, ⟨by omega⟩, ⟨HB.out⟩⟩
  case round =>
    obtain ⟨k, hk, rfl, HS, HW⟩ := hrel
    have hk5 : k = 0 ∨ k = 1 ∨ k = 2 ∨ k = 3 ∨ k = 4 := by omega
    rcases hk5 with rfl | rfl | rfl | rfl | rfl
    · have h1' : decide ((0 : Int) ≤ (c.toNat : Int)) = true := decide_eq_true (by omega)
      rcases Nat.lt_or_ge 127 c.toNat with h2 | h2
      · have h2' : decide ((c.toNat : Int) ≤ 127) = false := decide_eq_false (by omega)
        go_wp2
        go_roundw
        case rel => exact ⟨1, by omega, rfl, ⟨by have := Hs.out; have := HS.out; omega⟩, ⟨HW.out.alloc HW.out.size _⟩⟩
        case measure => simp [intOf]
      · have h2' : decide ((c.toNat : Int) ≤ 127) = true := decide_eq_true (by omega)
        go_wp2
        go_ret
        have hz : sizeU c = 1 := by have := Hs.out; have := HS.out; omega
        exact ⟨by rw [hz]; rfl, HW.out.alloc HW.out.size _⟩
    · rcases Nat.lt_or_ge c.toNat 194 with h1 | h1
      · have h1' : decide ((194 : Int) ≤ (c.toNat : Int)) = false := decide_eq_false (by omega)
        go_wp2
        go_roundw
        case rel => exact ⟨2, by omega, rfl, ⟨by have := Hs.out; have := HS.out; omega⟩, ⟨HW.out.alloc HW.out.size _⟩⟩
        case measure => simp [intOf]
      have h1' : decide ((194 : Int) ≤ (c.toNat : Int)) = true := decide_eq_true (by omega)
      rcases Nat.lt_or_ge 223 c.toNat with h2 | h2
      · have h2' : decide ((c.toNat : Int) ≤ 223) = false := decide_eq_false (by omega)
        go_wp2
        go_roundw
        case rel => exact ⟨2, by omega, rfl, ⟨by have := Hs.out; have := HS.out; omega⟩, ⟨HW.out.alloc HW.out.size _⟩⟩
        case measure => simp [intOf]
      · have h2' : decide ((c.toNat : Int) ≤ 223) = true := decide_eq_true (by omega)
        go_wp2
        go_ret
        have hz : sizeU c = 2 := by have := Hs.out; have := HS.out; omega
        exact ⟨by rw [hz]; rfl, HW.out.alloc HW.out.size _⟩
    · rcases Nat.lt_or_ge c.toNat 224 with h1 | h1
      · have h1' : decide ((224 : Int) ≤ (c.toNat : Int)) = false := decide_eq_false (by omega)
        go_wp2
        go_roundw
        case rel => exact ⟨3, by omega, rfl, ⟨by have := Hs.out; have := HS.out; omega⟩, ⟨HW.out.alloc HW.out.size _⟩⟩
        case measure => simp [intOf]
      have h1' : decide ((224 : Int) ≤ (c.toNat : Int)) = true := decide_eq_true (by omega)
      rcases Nat.lt_or_ge 239 c.toNat with h2 | h2
      · have h2' : decide ((c.toNat : Int) ≤ 239) = false := decide_eq_false (by omega)
        go_wp2
        go_roundw
        case rel => exact ⟨3, by omega, rfl, ⟨by have := Hs.out; have := HS.out; omega⟩, ⟨HW.out.alloc HW.out.size _⟩⟩
        case measure => simp [intOf]
      · have h2' : decide ((c.toNat : Int) ≤ 239) = true := decide_eq_true (by omega)
        go_wp2
        go_ret
        have hz : sizeU c = 3 := by have := Hs.out; have := HS.out; omega
        exact ⟨by rw [hz]; rfl, HW.out.alloc HW.out.size _⟩
    · rcases Nat.lt_or_ge c.toNat 240 with h1 | h1
      · have h1' : decide ((240 : Int) ≤ (c.toNat : Int)) = false := decide_eq_false (by omega)
        go_wp2
        go_roundw
        case rel => exact ⟨4, by omega, rfl, ⟨by have := Hs.out; have := HS.out; omega⟩, ⟨HW.out.alloc HW.out.size _⟩⟩
        case measure => simp [intOf]
      have h1' : decide ((240 : Int) ≤ (c.toNat : Int)) = true := decide_eq_true (by omega)
      rcases Nat.lt_or_ge 244 c.toNat with h2 | h2
      · have h2' : decide ((c.toNat : Int) ≤ 244) = false := decide_eq_false (by omega)
        go_wp2
        go_roundw
        case rel => exact ⟨4, by omega, rfl, ⟨by have := Hs.out; have := HS.out; omega⟩, ⟨HW.out.alloc HW.out.size _⟩⟩
        case measure => simp [intOf]
      · have h2' : decide ((c.toNat : Int) ≤ 244) = true := decide_eq_true (by omega)
        go_wp2
        go_ret
        have hz : sizeU c = 4 := by have := Hs.out; have := HS.out; omega
        exact ⟨by rw [hz]; rfl, HW.out.alloc HW.out.size _⟩
    · go_wp2
      go_ret
      have hz : sizeU c = 0 := by have := Hs.out; have := HS.out; omega
      exact ⟨by rw [hz]; rfl, HW.out⟩
end Go.Proofs.YtfeciafdioepiaaGreatDoor
set_option linter.unusedVariables false
set_option linter.unusedSimpArgs false
namespace Go.Proofs.YtfeciafdioepiaaGreatDoor
open Go.RowKit Go.Proofs Go.Proofs.YtfeciafdioepiaaGreatDoorW.PrintWords Go.Proofs.YtfeciafdioepiaaGreatDoorW.PrintMore Go.Proofs.YtfeciafdioepiaaGreatDoor.PA
attribute [local go_sem] max2_int min2_int max_two min_two

/-- The number that the bytes of an encoding spell; m: what the first byte's bits go up to. -/
def valL (m : Nat) : List UInt8 → Nat
  | [] => 0
  | c :: l => l.foldl (fun v b => v * 64 + b.toNat % 64) (c.toNat % m)
theorem valL_snoc (m : Nat) (l : List UInt8) (b : UInt8) (h : l ≠ []) : valL m (l ++ [b]) = valL m l * 64 + b.toNat % 64 := by
  cases l with
  | nil => exact absurd rfl h
  | cons c l => show (l ++ [b]).foldl _ _ = _; rw [List.foldl_append]; rfl
def isCont (b : UInt8) : Bool := decide (b.toNat / 64 = 2)
def modU : Nat → Nat | 1 => 128 | 2 => 32 | 3 => 16 | _ => 8
def minU : Nat → Nat | 1 => 0 | 2 => 128 | 3 => 2048 | _ => 65536
def maxU : Nat → Nat | 1 => 127 | 2 => 2047 | 3 => 65535 | _ => 1114111
/-- A number is a code point of a class. -/
def okVal (n v : Nat) : Bool := decide (minU n ≤ v) && decide (v ≤ maxU n) && !(decide (55296 ≤ v) && decide (v ≤ 57343))
def okAll (n : Nat) (l : List UInt8) : Bool := (l.drop 1).all isCont && okVal n (valL (modU n) l)
def bnd : Nat → Nat | 1 => 128 | 2 => 8192 | 3 => 524288 | _ => 33554432
/-- What begins answers. -/
def BegPost (n : Nat) (s : ByteArray) (e : Ending) : Prop := ∃ b : Bool, e = .returned (.tuple #[.int .i64 n, .bool b]) ∧ (s.size = n → b = okAll n s.data.toList)
/-- What is known at the head of round k. -/
def BegInv (n : Nat) (s : ByteArray) (k lo hi : Nat) : Prop := k ≤ s.size → lo = valL (modU n) (s.data.toList.take k) ∧ hi = lo ∧ ((s.data.toList.take k).drop 1).all isCont = true

theorem and127 (c : UInt8) : bits BinOp.and IntKind.u8 (c.toNat : Int) 127 = (c.toNat : Int) % 128 := by
  refine all_u8 (P := fun c => bits BinOp.and IntKind.u8 (c.toNat : Int) 127 = (c.toNat : Int) % 128) ?_ c
  decide +kernel
theorem valL_one (n : Nat) (s : ByteArray) (h0 : 0 < s.size) : valL (modU n) (s.data.toList.take 1) = (s[0]).toNat % modU n := by
  have h : 0 < s.data.toList.length := by simpa using h0
  have e := List.take_succ_eq_append_getElem h
  rw [List.take_zero, List.nil_append] at e
  rw [e]
  have hg : s.data.toList[0] = s[0] := by rw [Array.getElem_toList]; rfl
  rw [hg]; rfl
theorem BegInv.step {n k lo hi : Nat} {s : ByteArray} (h : BegInv n s k lo hi) (hk : 1 ≤ k) (hs : k < s.size) :
    (s[k].toNat / 64 = 2 → BegInv n s (k + 1) (lo * 64 + s[k].toNat % 64) (hi * 64 + s[k].toNat % 64)) ∧ (¬ s[k].toNat / 64 = 2 → s.size = n → okAll n s.data.toList = false) := by
  have hl : k < s.data.toList.length := by simpa using hs
  have hg : s.data.toList[k] = s[k] := by rw [Array.getElem_toList]; rfl
  obtain ⟨h1, h2, h3⟩ := h (by omega)
  have e := List.take_succ_eq_append_getElem hl
  rw [hg] at e
  constructor
  · intro hc _
    rw [e]
    refine ⟨?_, by rw [h2], ?_⟩
    · rw [valL_snoc _ _ _ (by intro h0; have := congrArg List.length h0; rw [List.length_take, List.length_nil] at this; omega), h1]
    · rw [List.drop_append_of_le_length (by rw [List.length_take]; omega), List.all_append, h3]
      simp [isCont, hc]
  · intro hc _
    unfold okAll
    have : (s.data.toList.drop 1).all isCont = false := by
      rw [List.all_eq_false]
      refine ⟨s[k], ?_, by simp [isCont, hc]⟩
      rw [← hg, List.mem_iff_getElem]
      refine ⟨k - 1, by rw [List.length_drop]; omega, ?_⟩
      rw [List.getElem_drop]
      congr 1; omega
    rw [this]; rfl
theorem BegInv.fin {n lo hi : Nat} {s : ByteArray} (h : BegInv n s n lo hi) (hs : s.size = n) : okAll n s.data.toList = okVal n lo ∧ hi = lo := by
  obtain ⟨h1, h2, h3⟩ := h (by omega)
  have e : s.data.toList.take n = s.data.toList := List.take_of_length_le (by simp; omega)
  rw [e] at h1 h3
  unfold okAll
  rw [h3, h1]; exact ⟨rfl, h2.trans h1⟩
theorem cell_new_at (w : World) (cs : Array Value) (T n j : Nat) {v : Value} (h : cs[j]? = some v) : ((w.alloc (.cells cs T)).drewN n).cell? ⟨w.heap.size, j, none⟩ = some v := by
  have := cell_of_row (w.alloc (.cells cs T)) w.heap.size j cs T (0, 0) (heap_alloc_last w _)
  exact this.trans h

set_option maxHeartbeats 2000000 in
set_option maxRecDepth 100000 in
theorem begins_1 (s : ByteArray) (w : World) (h0 : 0 < s.size) (hn : sizeU s[0] = 1) (hsz : s.size ≤ 1) : Calls Tryz.prog 124 #[.string s] w fun e w' => BegPost 1 s e ∧ Below w.heap.size w w' := by
  have i1 := cls_at0
  have hv0 := valL_one 1 s h0
  have hv0 : valL (modU 1) (s.data.toList.take 1) = (s[0]).toNat % 128 := hv0
  generalize hc : s[0] = c at *
  have Hc := Lib.hid hc
  have Hn := Lib.hid hn
  have Hv0 := Lib.hid hv0
  clear hv0
  have hb31 : bits BinOp.and IntKind.u8 (c.toNat : Int) 127 = ((c.toNat % 128 : Nat) : Int) := by have := c.toNat_lt; rw [and127 c]; omega
  have hl0 : c.toNat % 128 < 128 := by omega
  generalize hq : c.toNat % 128 = q0 at *
  have Hq := Lib.hid hq
  have hw32 : wrap32 (q0 : Int) = q0 := by unfold wrap32; omega
  have h20 : decide ((s.size : Int) > 1) = false := decide_eq_false (by omega)
  clear hn hq
  go_enter Tryz.func124, Tryz.ntmps124
  go_wp2_with (first | (go_at_call 123; refine (sizeOf_any c _).mono ?_; rw [Hn.out]; rintro e w1 ⟨rfl, hb⟩; have HB := Aside0.mk hb; clear hb) | (go_at_call 93; refine (classes_any _).mono ?_; rintro e w2 ⟨rfl, hb2⟩; have HB2 := Aside0.mk hb2; clear hb2))
  go_quiet (fail)
  go_wp2
  go_loopw [6, 7, 8] (fun v6 v7 v8 wr => ∃ k lo hi : Nat, 1 ≤ k ∧ k ≤ 1 ∧ v8 = .int .i64 k ∧ v6 = .int .i32 lo ∧ v7 = .int .i32 hi ∧ lo < bnd k ∧ hi < bnd k ∧ Aside0 (BegInv 1 s k lo hi) ∧ Aside0 (Below w.heap.size w wr) ∧ wr.cell? ⟨w2.heap.size, 3, none⟩ = some (.int .i32 0) ∧ wr.cell? ⟨w2.heap.size, 4, none⟩ = some (.int .i32 127)) (fun _ _ v8 _ => 1 - (intOf v8).toNat)
  case atStart =>
    refine ⟨1, q0, q0, by omega, by omega, rfl, rfl, rfl, by show q0 < 128; omega, by show q0 < 128; omega, ⟨fun _ => ⟨Hv0.out.symm, rfl, by rw [List.drop_eq_nil_of_le (List.length_take_le _ _)]; rfl⟩⟩, ⟨pw_below_drewN (((HB.out.trans (HB2.out.mono HB.out.size)).alloc (Nat.le_trans HB.out.size HB2.out.size) _)) _⟩, ?_, ?_⟩
    · exact cell_new_at _ _ _ _ _ rfl
    · exact cell_new_at _ _ _ _ _ rfl
  case round =>
    obtain ⟨k, lo, hi, hk1, hk2, rfl, rfl, rfl, hlo, hhi, HI, HW, hc3, hc4⟩ := hrel
    have hk5 : k = 1 := by omega
    rcases hk5 with rfl
    · simp only [bnd] at hlo hhi
      have hend := BegInv.fin (n := 1) (s := s) (lo := lo) (hi := hi) HI.out
      have Hend := Lib.hid hend
      clear hend
      rcases Nat.lt_or_ge lo 0 with hl | hl <;> rcases Nat.lt_or_ge 127 hi with hg | hg
      · have hl' : (lo : Int) < 0 := by omega
        have hg' : (127 : Int) < (hi : Int) := by omega
        go_wp2
        go_quiet (fail)
        go_wp2
        all_goals go_ret2
        all_goals exact ⟨⟨_, rfl, fun he => by rw [(Hend.out he).1]; have hh := (Hend.out he).2; rw [Bool.eq_iff_iff]; simp only [okVal, minU, maxU, Bool.and_eq_true, decide_eq_true_iff, Bool.not_eq_true', Bool.and_eq_false_iff, decide_eq_false_iff_not, Bool.false_eq_true, false_iff]; omega⟩, pw_below_drewN HW.out _⟩
      · have hl' : (lo : Int) < 0 := by omega
        have hg' : ¬ (127 : Int) < (hi : Int) := by omega
        go_wp2
        go_quiet (fail)
        go_wp2
        all_goals go_ret2
        all_goals exact ⟨⟨_, rfl, fun he => by rw [(Hend.out he).1]; have hh := (Hend.out he).2; rw [Bool.eq_iff_iff]; simp only [okVal, minU, maxU, Bool.and_eq_true, decide_eq_true_iff, Bool.not_eq_true', Bool.and_eq_false_iff, decide_eq_false_iff_not, Bool.false_eq_true, false_iff]; omega⟩, pw_below_drewN HW.out _⟩
      · have hl' : ¬ (lo : Int) < 0 := by omega
        have hg' : (127 : Int) < (hi : Int) := by omega
        go_wp2
        go_quiet (fail)
        go_wp2
        all_goals go_ret2
        all_goals exact ⟨⟨_, rfl, fun he => by rw [(Hend.out he).1]; have hh := (Hend.out he).2; rw [Bool.eq_iff_iff]; simp only [okVal, minU, maxU, Bool.and_eq_true, decide_eq_true_iff, Bool.not_eq_true', Bool.and_eq_false_iff, decide_eq_false_iff_not, Bool.false_eq_true, false_iff]; omega⟩, pw_below_drewN HW.out _⟩
      · have hl' : ¬ (lo : Int) < 0 := by omega
        have hg' : ¬ (127 : Int) < (hi : Int) := by omega
        go_wp2
        go_quiet (fail)
        go_wp2
        all_goals go_ret2
        all_goals exact ⟨⟨_, rfl, fun he => by rw [(Hend.out he).1]; have hh := (Hend.out he).2; rw [Bool.eq_iff_iff]; simp only [okVal, minU, maxU, Bool.and_eq_true, decide_eq_true_iff, Bool.not_eq_true', Bool.and_eq_false_iff, decide_eq_false_iff_not, Bool.false_eq_true, false_iff]; omega⟩, pw_below_drewN HW.out _⟩

set_option maxHeartbeats 2000000 in
set_option maxRecDepth 100000 in
theorem begins_2 (s : ByteArray) (w : World) (h0 : 0 < s.size) (hn : sizeU s[0] = 2) (hsz : s.size ≤ 2) : Calls Tryz.prog 124 #[.string s] w fun e w' => BegPost 2 s e ∧ Below w.heap.size w w' := by
  have i1 := cls_at1
  have hv0 := valL_one 2 s h0
  have hv0 : valL (modU 2) (s.data.toList.take 1) = (s[0]).toNat % 32 := hv0
  generalize hc : s[0] = c at *
  have Hc := Lib.hid hc
  have Hn := Lib.hid hn
  have Hv0 := Lib.hid hv0
  clear hv0
  have hb31 : bits BinOp.and IntKind.u8 (c.toNat : Int) 31 = ((c.toNat % 32 : Nat) : Int) := by have := c.toNat_lt; rw [u8_and31 _ (by omega) (by omega)]; omega
  have hl0 : c.toNat % 32 < 32 := by omega
  generalize hq : c.toNat % 32 = q0 at *
  have Hq := Lib.hid hq
  have hw32 : wrap32 (q0 : Int) = q0 := by unfold wrap32; omega
  have h20 : decide ((s.size : Int) > 2) = false := decide_eq_false (by omega)
  clear hn hq
  go_enter Tryz.func124, Tryz.ntmps124
  go_wp2_with (first | (go_at_call 123; refine (sizeOf_any c _).mono ?_; rw [Hn.out]; rintro e w1 ⟨rfl, hb⟩; have HB := Aside0.mk hb; clear hb) | (go_at_call 93; refine (classes_any _).mono ?_; rintro e w2 ⟨rfl, hb2⟩; have HB2 := Aside0.mk hb2; clear hb2))
  go_quiet (fail)
  go_wp2
  go_loopw [6, 7, 8] (fun v6 v7 v8 wr => ∃ k lo hi : Nat, 1 ≤ k ∧ k ≤ 2 ∧ v8 = .int .i64 k ∧ v6 = .int .i32 lo ∧ v7 = .int .i32 hi ∧ lo < bnd k ∧ hi < bnd k ∧ Aside0 (BegInv 2 s k lo hi) ∧ Aside0 (Below w.heap.size w wr) ∧ wr.cell? ⟨w2.heap.size, 3, none⟩ = some (.int .i32 128) ∧ wr.cell? ⟨w2.heap.size, 4, none⟩ = some (.int .i32 2047)) (fun _ _ v8 _ => 2 - (intOf v8).toNat)
  case atStart =>
    refine ⟨1, q0, q0, by omega, by omega, rfl, rfl, rfl, by show q0 < 128; omega, by show q0 < 128; omega, ⟨fun _ => ⟨Hv0.out.symm, rfl, by rw [List.drop_eq_nil_of_le (List.length_take_le _ _)]; rfl⟩⟩, ⟨pw_below_drewN (((HB.out.trans (HB2.out.mono HB.out.size)).alloc (Nat.le_trans HB.out.size HB2.out.size) _)) _⟩, ?_, ?_⟩
    · exact cell_new_at _ _ _ _ _ rfl
    · exact cell_new_at _ _ _ _ _ rfl
  case round =>
    obtain ⟨k, lo, hi, hk1, hk2, rfl, rfl, rfl, hlo, hhi, HI, HW, hc3, hc4⟩ := hrel
    have hk5 : k = 1 ∨ k = 2 := by omega
    rcases hk5 with rfl | rfl
    · simp only [bnd] at hlo hhi
      by_cases hks : 1 < s.size
      · have hks' : decide ((s.size : Int) ≤ 1) = false := decide_eq_false (by omega)
        have hst := BegInv.step (n := 2) (k := 1) (s := s) (lo := lo) (hi := hi) HI.out (by omega) hks
        generalize hd : s[1] = d at *
        have Hst := Lib.hid hst
        clear hst
        have hd256 := d.toNat_lt
        have hb63 : bits BinOp.and IntKind.u8 (d.toNat : Int) 63 = ((d.toNat % 64 : Nat) : Int) := by rw [u8_and63 _ (by omega) (by omega)]; omega
        have hl64 : d.toNat % 64 < 64 := by omega
        generalize hr : d.toNat % 64 = r at *
        have Hr := Lib.hid hr
        clear hr
        rcases Decidable.em (d.toNat / 64 = 2) with hct | hct
        · have hct' : (((d.toNat : Int) / 64) != 2) = false := by rw [bne_eq_false_iff_eq]; omega
          go_wp2
          go_quiet (fail)
          go_wp2
          go_roundw
          case rel => exact ⟨2, lo * 64 + r, hi * 64 + r, by omega, by omega, rfl, by go_num, by go_num, by show _ < 8192; omega, by show _ < 8192; omega, ⟨Hst.out.1 hct⟩, ⟨pw_below_drewN HW.out _⟩, hc3, hc4⟩
          case measure => simp [intOf]
        · have hct' : (((d.toNat : Int) / 64) != 2) = true := by rw [bne_iff_ne]; omega
          go_wp2
          go_ret2
          exact ⟨⟨false, rfl, fun he => (Hst.out.2 hct he).symm⟩, HW.out⟩
      · have hks' : decide ((s.size : Int) ≤ 1) = true := decide_eq_true (by omega)
        go_wp2
        go_roundw
        case rel => exact ⟨2, lo * 64, hi * 64 + 63, by omega, by omega, rfl, by go_num, by go_num, by show _ < 8192; omega, by show _ < 8192; omega, ⟨fun h => absurd h (by omega)⟩, ⟨HW.out⟩, hc3, hc4⟩
        case measure => simp [intOf]
    · simp only [bnd] at hlo hhi
      have hend := BegInv.fin (n := 2) (s := s) (lo := lo) (hi := hi) HI.out
      have Hend := Lib.hid hend
      clear hend
      rcases Nat.lt_or_ge lo 128 with hl | hl <;> rcases Nat.lt_or_ge 2047 hi with hg | hg
      · have hl' : (lo : Int) < 128 := by omega
        have hg' : (2047 : Int) < (hi : Int) := by omega
        go_wp2
        go_quiet (fail)
        go_wp2
        all_goals go_ret2
        all_goals exact ⟨⟨_, rfl, fun he => by rw [(Hend.out he).1]; have hh := (Hend.out he).2; rw [Bool.eq_iff_iff]; simp only [okVal, minU, maxU, Bool.and_eq_true, decide_eq_true_iff, Bool.not_eq_true', Bool.and_eq_false_iff, decide_eq_false_iff_not, Bool.false_eq_true, false_iff]; omega⟩, pw_below_drewN HW.out _⟩
      · have hl' : (lo : Int) < 128 := by omega
        have hg' : ¬ (2047 : Int) < (hi : Int) := by omega
        go_wp2
        go_quiet (fail)
        go_wp2
        all_goals go_ret2
        all_goals exact ⟨⟨_, rfl, fun he => by rw [(Hend.out he).1]; have hh := (Hend.out he).2; rw [Bool.eq_iff_iff]; simp only [okVal, minU, maxU, Bool.and_eq_true, decide_eq_true_iff, Bool.not_eq_true', Bool.and_eq_false_iff, decide_eq_false_iff_not, Bool.false_eq_true, false_iff]; omega⟩, pw_below_drewN HW.out _⟩
      · have hl' : ¬ (lo : Int) < 128 := by omega
        have hg' : (2047 : Int) < (hi : Int) := by omega
        go_wp2
        go_quiet (fail)
        go_wp2
        all_goals go_ret2
        all_goals exact ⟨⟨_, rfl, fun he => by rw [(Hend.out he).1]; have hh := (Hend.out he).2; rw [Bool.eq_iff_iff]; simp only [okVal, minU, maxU, Bool.and_eq_true, decide_eq_true_iff, Bool.not_eq_true', Bool.and_eq_false_iff, decide_eq_false_iff_not, Bool.false_eq_true, false_iff]; omega⟩, pw_below_drewN HW.out _⟩
      · have hl' : ¬ (lo : Int) < 128 := by omega
        have hg' : ¬ (2047 : Int) < (hi : Int) := by omega
        go_wp2
        go_quiet (fail)
        go_wp2
        all_goals go_ret2
        all_goals exact ⟨⟨_, rfl, fun he => by rw [(Hend.out he).1]; have hh := (Hend.out he).2; rw [Bool.eq_iff_iff]; simp only [okVal, minU, maxU, Bool.and_eq_true, decide_eq_true_iff, Bool.not_eq_true', Bool.and_eq_false_iff, decide_eq_false_iff_not, Bool.false_eq_true, false_iff]; omega⟩, pw_below_drewN HW.out _⟩

set_option maxHeartbeats 2000000 in
set_option maxRecDepth 100000 in
theorem begins_3 (s : ByteArray) (w : World) (h0 : 0 < s.size) (hn : sizeU s[0] = 3) (hsz : s.size ≤ 3) : Calls Tryz.prog 124 #[.string s] w fun e w' => BegPost 3 s e ∧ Below w.heap.size w w' := by
  have i1 := cls_at2
  have hv0 := valL_one 3 s h0
  have hv0 : valL (modU 3) (s.data.toList.take 1) = (s[0]).toNat % 16 := hv0
  generalize hc : s[0] = c at *
  have Hc := Lib.hid hc
  have Hn := Lib.hid hn
  have Hv0 := Lib.hid hv0
  clear hv0
  have hb31 : bits BinOp.and IntKind.u8 (c.toNat : Int) 15 = ((c.toNat % 16 : Nat) : Int) := by have := c.toNat_lt; rw [u8_and15 _ (by omega) (by omega)]; omega
  have hl0 : c.toNat % 16 < 16 := by omega
  generalize hq : c.toNat % 16 = q0 at *
  have Hq := Lib.hid hq
  have hw32 : wrap32 (q0 : Int) = q0 := by unfold wrap32; omega
  have h20 : decide ((s.size : Int) > 3) = false := decide_eq_false (by omega)
  clear hn hq
  go_enter Tryz.func124, Tryz.ntmps124
  go_wp2_with (first | (go_at_call 123; refine (sizeOf_any c _).mono ?_; rw [Hn.out]; rintro e w1 ⟨rfl, hb⟩; have HB := Aside0.mk hb; clear hb) | (go_at_call 93; refine (classes_any _).mono ?_; rintro e w2 ⟨rfl, hb2⟩; have HB2 := Aside0.mk hb2; clear hb2))
  go_quiet (fail)
  go_wp2
  go_loopw [6, 7, 8] (fun v6 v7 v8 wr => ∃ k lo hi : Nat, 1 ≤ k ∧ k ≤ 3 ∧ v8 = .int .i64 k ∧ v6 = .int .i32 lo ∧ v7 = .int .i32 hi ∧ lo < bnd k ∧ hi < bnd k ∧ Aside0 (BegInv 3 s k lo hi) ∧ Aside0 (Below w.heap.size w wr) ∧ wr.cell? ⟨w2.heap.size, 3, none⟩ = some (.int .i32 2048) ∧ wr.cell? ⟨w2.heap.size, 4, none⟩ = some (.int .i32 65535)) (fun _ _ v8 _ => 3 - (intOf v8).toNat)
  case atStart =>
    refine ⟨1, q0, q0, by omega, by omega, rfl, rfl, rfl, by show q0 < 128; omega, by show q0 < 128; omega, ⟨fun _ => ⟨Hv0.out.symm, rfl, by rw [List.drop_eq_nil_of_le (List.length_take_le _ _)]; rfl⟩⟩, ⟨pw_below_drewN (((HB.out.trans (HB2.out.mono HB.out.size)).alloc (Nat.le_trans HB.out.size HB2.out.size) _)) _⟩, ?_, ?_⟩
    · exact cell_new_at _ _ _ _ _ rfl
    · exact cell_new_at _ _ _ _ _ rfl
  case round =>
    obtain ⟨k, lo, hi, hk1, hk2, rfl, rfl, rfl, hlo, hhi, HI, HW, hc3, hc4⟩ := hrel
    have hk5 : k = 1 ∨ k = 2 ∨ k = 3 := by omega
    rcases hk5 with rfl | rfl | rfl
    · simp only [bnd] at hlo hhi
      by_cases hks : 1 < s.size
      · have hks' : decide ((s.size : Int) ≤ 1) = false := decide_eq_false (by omega)
        have hst := BegInv.step (n := 3) (k := 1) (s := s) (lo := lo) (hi := hi) HI.out (by omega) hks
        generalize hd : s[1] = d at *
        have Hst := Lib.hid hst
        clear hst
        have hd256 := d.toNat_lt
        have hb63 : bits BinOp.and IntKind.u8 (d.toNat : Int) 63 = ((d.toNat % 64 : Nat) : Int) := by rw [u8_and63 _ (by omega) (by omega)]; omega
        have hl64 : d.toNat % 64 < 64 := by omega
        generalize hr : d.toNat % 64 = r at *
        have Hr := Lib.hid hr
        clear hr
        rcases Decidable.em (d.toNat / 64 = 2) with hct | hct
        · have hct' : (((d.toNat : Int) / 64) != 2) = false := by rw [bne_eq_false_iff_eq]; omega
          go_wp2
          go_quiet (fail)
          go_wp2
          go_roundw
          case rel => exact ⟨2, lo * 64 + r, hi * 64 + r, by omega, by omega, rfl, by go_num, by go_num, by show _ < 8192; omega, by show _ < 8192; omega, ⟨Hst.out.1 hct⟩, ⟨pw_below_drewN HW.out _⟩, hc3, hc4⟩
          case measure => simp [intOf]
        · have hct' : (((d.toNat : Int) / 64) != 2) = true := by rw [bne_iff_ne]; omega
          go_wp2
          go_ret2
          exact ⟨⟨false, rfl, fun he => (Hst.out.2 hct he).symm⟩, HW.out⟩
      · have hks' : decide ((s.size : Int) ≤ 1) = true := decide_eq_true (by omega)
        go_wp2
        go_roundw
        case rel => exact ⟨2, lo * 64, hi * 64 + 63, by omega, by omega, rfl, by go_num, by go_num, by show _ < 8192; omega, by show _ < 8192; omega, ⟨fun h => absurd h (by omega)⟩, ⟨HW.out⟩, hc3, hc4⟩
        case measure => simp [intOf]
    · simp only [bnd] at hlo hhi
      by_cases hks : 2 < s.size
      · have hks' : decide ((s.size : Int) ≤ 2) = false := decide_eq_false (by omega)
        have hst := BegInv.step (n := 3) (k := 2) (s := s) (lo := lo) (hi := hi) HI.out (by omega) hks
        generalize hd : s[2] = d at *
        have Hst := Lib.hid hst
        clear hst
        have hd256 := d.toNat_lt
        have hb63 : bits BinOp.and IntKind.u8 (d.toNat : Int) 63 = ((d.toNat % 64 : Nat) : Int) := by rw [u8_and63 _ (by omega) (by omega)]; omega
        have hl64 : d.toNat % 64 < 64 := by omega
        generalize hr : d.toNat % 64 = r at *
        have Hr := Lib.hid hr
        clear hr
        rcases Decidable.em (d.toNat / 64 = 2) with hct | hct
        · have hct' : (((d.toNat : Int) / 64) != 2) = false := by rw [bne_eq_false_iff_eq]; omega
          go_wp2
          go_quiet (fail)
          go_wp2
          go_roundw
          case rel => exact ⟨3, lo * 64 + r, hi * 64 + r, by omega, by omega, rfl, by go_num, by go_num, by show _ < 524288; omega, by show _ < 524288; omega, ⟨Hst.out.1 hct⟩, ⟨pw_below_drewN HW.out _⟩, hc3, hc4⟩
          case measure => simp [intOf]
        · have hct' : (((d.toNat : Int) / 64) != 2) = true := by rw [bne_iff_ne]; omega
          go_wp2
          go_ret2
          exact ⟨⟨false, rfl, fun he => (Hst.out.2 hct he).symm⟩, HW.out⟩
      · have hks' : decide ((s.size : Int) ≤ 2) = true := decide_eq_true (by omega)
        go_wp2
        go_roundw
        case rel => exact ⟨3, lo * 64, hi * 64 + 63, by omega, by omega, rfl, by go_num, by go_num, by show _ < 524288; omega, by show _ < 524288; omega, ⟨fun h => absurd h (by omega)⟩, ⟨HW.out⟩, hc3, hc4⟩
        case measure => simp [intOf]
    · simp only [bnd] at hlo hhi
      have hend := BegInv.fin (n := 3) (s := s) (lo := lo) (hi := hi) HI.out
      have Hend := Lib.hid hend
      clear hend
      rcases Nat.lt_or_ge lo 2048 with hl | hl <;> rcases Nat.lt_or_ge 65535 hi with hg | hg
      · have hl' : (lo : Int) < 2048 := by omega
        have hg' : (65535 : Int) < (hi : Int) := by omega
        go_wp2
        go_quiet (fail)
        go_wp2
        all_goals go_ret2
        all_goals exact ⟨⟨_, rfl, fun he => by rw [(Hend.out he).1]; have hh := (Hend.out he).2; rw [Bool.eq_iff_iff]; simp only [okVal, minU, maxU, Bool.and_eq_true, decide_eq_true_iff, Bool.not_eq_true', Bool.and_eq_false_iff, decide_eq_false_iff_not, Bool.false_eq_true, false_iff]; omega⟩, pw_below_drewN HW.out _⟩
      · have hl' : (lo : Int) < 2048 := by omega
        have hg' : ¬ (65535 : Int) < (hi : Int) := by omega
        go_wp2
        go_quiet (fail)
        go_wp2
        all_goals go_ret2
        all_goals exact ⟨⟨_, rfl, fun he => by rw [(Hend.out he).1]; have hh := (Hend.out he).2; rw [Bool.eq_iff_iff]; simp only [okVal, minU, maxU, Bool.and_eq_true, decide_eq_true_iff, Bool.not_eq_true', Bool.and_eq_false_iff, decide_eq_false_iff_not, Bool.false_eq_true, false_iff]; omega⟩, pw_below_drewN HW.out _⟩
      · have hl' : ¬ (lo : Int) < 2048 := by omega
        have hg' : (65535 : Int) < (hi : Int) := by omega
        go_wp2
        go_quiet (fail)
        go_wp2
        all_goals go_ret2
        all_goals exact ⟨⟨_, rfl, fun he => by rw [(Hend.out he).1]; have hh := (Hend.out he).2; rw [Bool.eq_iff_iff]; simp only [okVal, minU, maxU, Bool.and_eq_true, decide_eq_true_iff, Bool.not_eq_true', Bool.and_eq_false_iff, decide_eq_false_iff_not, Bool.false_eq_true, false_iff]; omega⟩, pw_below_drewN HW.out _⟩
      · have hl' : ¬ (lo : Int) < 2048 := by omega
        have hg' : ¬ (65535 : Int) < (hi : Int) := by omega
        go_wp2
        go_quiet (fail)
        go_wp2
        all_goals go_ret2
        all_goals exact ⟨⟨_, rfl, fun he => by rw [(Hend.out he).1]; have hh := (Hend.out he).2; rw [Bool.eq_iff_iff]; simp only [okVal, minU, maxU, Bool.and_eq_true, decide_eq_true_iff, Bool.not_eq_true', Bool.and_eq_false_iff, decide_eq_false_iff_not, Bool.false_eq_true, false_iff]; omega⟩, pw_below_drewN HW.out _⟩

set_option maxHeartbeats 2000000 in
set_option maxRecDepth 100000 in
theorem begins_4 (s : ByteArray) (w : World) (h0 : 0 < s.size) (hn : sizeU s[0] = 4) (hsz : s.size ≤ 4) : Calls Tryz.prog 124 #[.string s] w fun e w' => BegPost 4 s e ∧ Below w.heap.size w w' := by
  have i1 := cls_at3
  have hv0 := valL_one 4 s h0
  have hv0 : valL (modU 4) (s.data.toList.take 1) = (s[0]).toNat % 8 := hv0
  generalize hc : s[0] = c at *
  have Hc := Lib.hid hc
  have Hn := Lib.hid hn
  have Hv0 := Lib.hid hv0
  clear hv0
  have hb31 : bits BinOp.and IntKind.u8 (c.toNat : Int) 7 = ((c.toNat % 8 : Nat) : Int) := by have := c.toNat_lt; rw [u8_and7 _ (by omega) (by omega)]; omega
  have hl0 : c.toNat % 8 < 8 := by omega
  generalize hq : c.toNat % 8 = q0 at *
  have Hq := Lib.hid hq
  have hw32 : wrap32 (q0 : Int) = q0 := by unfold wrap32; omega
  have h20 : decide ((s.size : Int) > 4) = false := decide_eq_false (by omega)
  clear hn hq
  go_enter Tryz.func124, Tryz.ntmps124
  go_wp2_with (first | (go_at_call 123; refine (sizeOf_any c _).mono ?_; rw [Hn.out]; rintro e w1 ⟨rfl, hb⟩; have HB := Aside0.mk hb; clear hb) | (go_at_call 93; refine (classes_any _).mono ?_; rintro e w2 ⟨rfl, hb2⟩; have HB2 := Aside0.mk hb2; clear hb2))
  go_quiet (fail)
  go_wp2
  go_loopw [6, 7, 8] (fun v6 v7 v8 wr => ∃ k lo hi : Nat, 1 ≤ k ∧ k ≤ 4 ∧ v8 = .int .i64 k ∧ v6 = .int .i32 lo ∧ v7 = .int .i32 hi ∧ lo < bnd k ∧ hi < bnd k ∧ Aside0 (BegInv 4 s k lo hi) ∧ Aside0 (Below w.heap.size w wr) ∧ wr.cell? ⟨w2.heap.size, 3, none⟩ = some (.int .i32 65536) ∧ wr.cell? ⟨w2.heap.size, 4, none⟩ = some (.int .i32 1114111)) (fun _ _ v8 _ => 4 - (intOf v8).toNat)
  case atStart =>
    refine ⟨1, q0, q0, by omega, by omega, rfl, rfl, rfl, by show q0 < 128; omega, by show q0 < 128; omega, ⟨fun _ => ⟨Hv0.out.symm, rfl, by rw [List.drop_eq_nil_of_le (List.length_take_le _ _)]; rfl⟩⟩, ⟨pw_below_drewN (((HB.out.trans (HB2.out.mono HB.out.size)).alloc (Nat.le_trans HB.out.size HB2.out.size) _)) _⟩, ?_, ?_⟩
    · exact cell_new_at _ _ _ _ _ rfl
    · exact cell_new_at _ _ _ _ _ rfl
  case round =>
    obtain ⟨k, lo, hi, hk1, hk2, rfl, rfl, rfl, hlo, hhi, HI, HW, hc3, hc4⟩ := hrel
    have hk5 : k = 1 ∨ k = 2 ∨ k = 3 ∨ k = 4 := by omega
    rcases hk5 with rfl | rfl | rfl | rfl
    · simp only [bnd] at hlo hhi
      by_cases hks : 1 < s.size
      · have hks' : decide ((s.size : Int) ≤ 1) = false := decide_eq_false (by omega)
        have hst := BegInv.step (n := 4) (k := 1) (s := s) (lo := lo) (hi := hi) HI.out (by omega) hks
        generalize hd : s[1] = d at *
        have Hst := Lib.hid hst
        clear hst
        have hd256 := d.toNat_lt
        have hb63 : bits BinOp.and IntKind.u8 (d.toNat : Int) 63 = ((d.toNat % 64 : Nat) : Int) := by rw [u8_and63 _ (by omega) (by omega)]; omega
        have hl64 : d.toNat % 64 < 64 := by omega
        generalize hr : d.toNat % 64 = r at *
        have Hr := Lib.hid hr
        clear hr
        rcases Decidable.em (d.toNat / 64 = 2) with hct | hct
        · have hct' : (((d.toNat : Int) / 64) != 2) = false := by rw [bne_eq_false_iff_eq]; omega
          go_wp2
          go_quiet (fail)
          go_wp2
          go_roundw
          case rel => exact ⟨2, lo * 64 + r, hi * 64 + r, by omega, by omega, rfl, by go_num, by go_num, by show _ < 8192; omega, by show _ < 8192; omega, ⟨Hst.out.1 hct⟩, ⟨pw_below_drewN HW.out _⟩, hc3, hc4⟩
          case measure => simp [intOf]
        · have hct' : (((d.toNat : Int) / 64) != 2) = true := by rw [bne_iff_ne]; omega
          go_wp2
          go_ret2
          exact ⟨⟨false, rfl, fun he => (Hst.out.2 hct he).symm⟩, HW.out⟩
      · have hks' : decide ((s.size : Int) ≤ 1) = true := decide_eq_true (by omega)
        go_wp2
        go_roundw
        case rel => exact ⟨2, lo * 64, hi * 64 + 63, by omega, by omega, rfl, by go_num, by go_num, by show _ < 8192; omega, by show _ < 8192; omega, ⟨fun h => absurd h (by omega)⟩, ⟨HW.out⟩, hc3, hc4⟩
        case measure => simp [intOf]
    · simp only [bnd] at hlo hhi
      by_cases hks : 2 < s.size
      · have hks' : decide ((s.size : Int) ≤ 2) = false := decide_eq_false (by omega)
        have hst := BegInv.step (n := 4) (k := 2) (s := s) (lo := lo) (hi := hi) HI.out (by omega) hks
        generalize hd : s[2] = d at *
        have Hst := Lib.hid hst
        clear hst
        have hd256 := d.toNat_lt
        have hb63 : bits BinOp.and IntKind.u8 (d.toNat : Int) 63 = ((d.toNat % 64 : Nat) : Int) := by rw [u8_and63 _ (by omega) (by omega)]; omega
        have hl64 : d.toNat % 64 < 64 := by omega
        generalize hr : d.toNat % 64 = r at *
        have Hr := Lib.hid hr
        clear hr
        rcases Decidable.em (d.toNat / 64 = 2) with hct | hct
        · have hct' : (((d.toNat : Int) / 64) != 2) = false := by rw [bne_eq_false_iff_eq]; omega
          go_wp2
          go_quiet (fail)
          go_wp2
          go_roundw
          case rel => exact ⟨3, lo * 64 + r, hi * 64 + r, by omega, by omega, rfl, by go_num, by go_num, by show _ < 524288; omega, by show _ < 524288; omega, ⟨Hst.out.1 hct⟩, ⟨pw_below_drewN HW.out _⟩, hc3, hc4⟩
          case measure => simp [intOf]
        · have hct' : (((d.toNat : Int) / 64) != 2) = true := by rw [bne_iff_ne]; omega
          go_wp2
          go_ret2
          exact ⟨⟨false, rfl, fun he => (Hst.out.2 hct he).symm⟩, HW.out⟩
      · have hks' : decide ((s.size : Int) ≤ 2) = true := decide_eq_true (by omega)
        go_wp2
        go_roundw
        case rel => exact ⟨3, lo * 64, hi * 64 + 63, by omega, by omega, rfl, by go_num, by go_num, by show _ < 524288; omega, by show _ < 524288; omega, ⟨fun h => absurd h (by omega)⟩, ⟨HW.out⟩, hc3, hc4⟩
        case measure => simp [intOf]
    · simp only [bnd] at hlo hhi
      by_cases hks : 3 < s.size
      · have hks' : decide ((s.size : Int) ≤ 3) = false := decide_eq_false (by omega)
        have hst := BegInv.step (n := 4) (k := 3) (s := s) (lo := lo) (hi := hi) HI.out (by omega) hks
        generalize hd : s[3] = d at *
        have Hst := Lib.hid hst
        clear hst
        have hd256 := d.toNat_lt
        have hb63 : bits BinOp.and IntKind.u8 (d.toNat : Int) 63 = ((d.toNat % 64 : Nat) : Int) := by rw [u8_and63 _ (by omega) (by omega)]; omega
        have hl64 : d.toNat % 64 < 64 := by omega
        generalize hr : d.toNat % 64 = r at *
        have Hr := Lib.hid hr
        clear hr
        rcases Decidable.em (d.toNat / 64 = 2) with hct | hct
        · have hct' : (((d.toNat : Int) / 64) != 2) = false := by rw [bne_eq_false_iff_eq]; omega
          go_wp2
          go_quiet (fail)
          go_wp2
          go_roundw
          case rel => exact ⟨4, lo * 64 + r, hi * 64 + r, by omega, by omega, rfl, by go_num, by go_num, by show _ < 33554432; omega, by show _ < 33554432; omega, ⟨Hst.out.1 hct⟩, ⟨pw_below_drewN HW.out _⟩, hc3, hc4⟩
          case measure => simp [intOf]
        · have hct' : (((d.toNat : Int) / 64) != 2) = true := by rw [bne_iff_ne]; omega
          go_wp2
          go_ret2
          exact ⟨⟨false, rfl, fun he => (Hst.out.2 hct he).symm⟩, HW.out⟩
      · have hks' : decide ((s.size : Int) ≤ 3) = true := decide_eq_true (by omega)
        go_wp2
        go_roundw
        case rel => exact ⟨4, lo * 64, hi * 64 + 63, by omega, by omega, rfl, by go_num, by go_num, by show _ < 33554432; omega, by show _ < 33554432; omega, ⟨fun h => absurd h (by omega)⟩, ⟨HW.out⟩, hc3, hc4⟩
        case measure => simp [intOf]
    · simp only [bnd] at hlo hhi
      have hend := BegInv.fin (n := 4) (s := s) (lo := lo) (hi := hi) HI.out
      have Hend := Lib.hid hend
      clear hend
      rcases Nat.lt_or_ge lo 65536 with hl | hl <;> rcases Nat.lt_or_ge 1114111 hi with hg | hg
      · have hl' : (lo : Int) < 65536 := by omega
        have hg' : (1114111 : Int) < (hi : Int) := by omega
        obtain ⟨m, hm⟩ : ∃ m : Int, m = 65536 := ⟨_, rfl⟩
        obtain ⟨x, hx⟩ : ∃ x : Int, x = 1114111 := ⟨_, rfl⟩
        rw [← hm] at hc3 hl'
        rw [← hx] at hc4 hg'
        have hm1 : decide ((55296 : Int) ≤ m) = true := decide_eq_true (by omega)
        have hx1 : decide (x ≤ (57343 : Int)) = false := decide_eq_false (by omega)
        have Hm := Lib.hid hm
        have Hx := Lib.hid hx
        clear hm hx
        go_wp2
        go_quiet (fail)
        go_wp2
        all_goals go_ret2
        all_goals exact ⟨⟨_, rfl, fun he => by rw [(Hend.out he).1]; have hh := (Hend.out he).2; have hm := Hm.out; have hx := Hx.out; rw [Bool.eq_iff_iff]; simp only [okVal, minU, maxU, Bool.and_eq_true, decide_eq_true_iff, Bool.not_eq_true', Bool.and_eq_false_iff, decide_eq_false_iff_not, Bool.false_eq_true, false_iff]; omega⟩, pw_below_drewN HW.out _⟩
      · have hl' : (lo : Int) < 65536 := by omega
        have hg' : ¬ (1114111 : Int) < (hi : Int) := by omega
        obtain ⟨m, hm⟩ : ∃ m : Int, m = 65536 := ⟨_, rfl⟩
        obtain ⟨x, hx⟩ : ∃ x : Int, x = 1114111 := ⟨_, rfl⟩
        rw [← hm] at hc3 hl'
        rw [← hx] at hc4 hg'
        have hm1 : decide ((55296 : Int) ≤ m) = true := decide_eq_true (by omega)
        have hx1 : decide (x ≤ (57343 : Int)) = false := decide_eq_false (by omega)
        have Hm := Lib.hid hm
        have Hx := Lib.hid hx
        clear hm hx
        go_wp2
        go_quiet (fail)
        go_wp2
        all_goals go_ret2
        all_goals exact ⟨⟨_, rfl, fun he => by rw [(Hend.out he).1]; have hh := (Hend.out he).2; have hm := Hm.out; have hx := Hx.out; rw [Bool.eq_iff_iff]; simp only [okVal, minU, maxU, Bool.and_eq_true, decide_eq_true_iff, Bool.not_eq_true', Bool.and_eq_false_iff, decide_eq_false_iff_not, Bool.false_eq_true, false_iff]; omega⟩, pw_below_drewN HW.out _⟩
      · have hl' : ¬ (lo : Int) < 65536 := by omega
        have hg' : (1114111 : Int) < (hi : Int) := by omega
        obtain ⟨m, hm⟩ : ∃ m : Int, m = 65536 := ⟨_, rfl⟩
        obtain ⟨x, hx⟩ : ∃ x : Int, x = 1114111 := ⟨_, rfl⟩
        rw [← hm] at hc3 hl'
        rw [← hx] at hc4 hg'
        have hm1 : decide ((55296 : Int) ≤ m) = true := decide_eq_true (by omega)
        have hx1 : decide (x ≤ (57343 : Int)) = false := decide_eq_false (by omega)
        have Hm := Lib.hid hm
        have Hx := Lib.hid hx
        clear hm hx
        go_wp2
        go_quiet (fail)
        go_wp2
        all_goals go_ret2
        all_goals exact ⟨⟨_, rfl, fun he => by rw [(Hend.out he).1]; have hh := (Hend.out he).2; have hm := Hm.out; have hx := Hx.out; rw [Bool.eq_iff_iff]; simp only [okVal, minU, maxU, Bool.and_eq_true, decide_eq_true_iff, Bool.not_eq_true', Bool.and_eq_false_iff, decide_eq_false_iff_not, Bool.false_eq_true, false_iff]; omega⟩, pw_below_drewN HW.out _⟩
      · have hl' : ¬ (lo : Int) < 65536 := by omega
        have hg' : ¬ (1114111 : Int) < (hi : Int) := by omega
        obtain ⟨m, hm⟩ : ∃ m : Int, m = 65536 := ⟨_, rfl⟩
        obtain ⟨x, hx⟩ : ∃ x : Int, x = 1114111 := ⟨_, rfl⟩
        rw [← hm] at hc3 hl'
        rw [← hx] at hc4 hg'
        have hm1 : decide ((55296 : Int) ≤ m) = true := decide_eq_true (by omega)
        have hx1 : decide (x ≤ (57343 : Int)) = false := decide_eq_false (by omega)
        have Hm := Lib.hid hm
        have Hx := Lib.hid hx
        clear hm hx
        go_wp2
        go_quiet (fail)
        go_wp2
        all_goals go_ret2
        all_goals exact ⟨⟨_, rfl, fun he => by rw [(Hend.out he).1]; have hh := (Hend.out he).2; have hm := Hm.out; have hx := Hx.out; rw [Bool.eq_iff_iff]; simp only [okVal, minU, maxU, Bool.and_eq_true, decide_eq_true_iff, Bool.not_eq_true', Bool.and_eq_false_iff, decide_eq_false_iff_not, Bool.false_eq_true, false_iff]; omega⟩, pw_below_drewN HW.out _⟩
end Go.Proofs.YtfeciafdioepiaaGreatDoor
set_option linter.unusedVariables false
set_option linter.unusedSimpArgs false
namespace Go.Proofs.YtfeciafdioepiaaGreatDoor
open Go.RowKit Go.Proofs Go.Proofs.YtfeciafdioepiaaGreatDoorW.PrintWords Go.Proofs.YtfeciafdioepiaaGreatDoorW.PrintMore Go.Proofs.YtfeciafdioepiaaGreatDoor.PA
attribute [local go_sem] max2_int min2_int max_two min_two

/-- The code point at the beginning of bytes, and how many bytes it has. -/
def decR : List UInt8 → Option (Nat × Nat)
  | [] => none
  | c :: l => if sizeU c = 0 ∨ (c :: l).length < sizeU c then none else if okAll (sizeU c) ((c :: l).take (sizeU c)) then some (valL (modU (sizeU c)) ((c :: l).take (sizeU c)), sizeU c) else none
/-- What first answers. -/
def FirstPost (s : ByteArray) (e : Ending) : Prop :=
  match decR s.data.toList with
  | some (v, n) => e = .returned (.tuple #[.int .i32 v, .int .i64 n, .int .i64 0])
  | none => ∃ c : Int, c ≠ 0 ∧ e = .returned (.tuple #[.int .i32 0, .int .i64 0, .int .i64 c])
theorem FirstPost.no {s : ByteArray} (h : decR s.data.toList = none) (c : Int) (hc : c ≠ 0) : FirstPost s (.returned (.tuple #[.int .i32 0, .int .i64 0, .int .i64 c])) := by
  unfold FirstPost; rw [h]; exact ⟨c, hc, rfl⟩
theorem FirstPost.yes {s : ByteArray} {v n : Nat} (h : decR s.data.toList = some (v, n)) : FirstPost s (.returned (.tuple #[.int .i32 v, .int .i64 n, .int .i64 0])) := by
  unfold FirstPost; rw [h]
theorem list_head (s : ByteArray) (h0 : 0 < s.size) : ∃ l, s.data.toList = s[0] :: l := by
  have h : 0 < s.data.toList.length := by simpa using h0
  have hg : s.data.toList[0] = s[0] := by rw [Array.getElem_toList]; rfl
  cases hl : s.data.toList with
  | nil => rw [hl] at h; simp at h
  | cons c l => rw [← hg]; exact ⟨l, by simp [hl]⟩
theorem decR_short (s : ByteArray) (h0 : 0 < s.size) {n : Nat} (hn : sizeU s[0] = n) (h : s.size < n) : decR s.data.toList = none := by
  have hlen : s.data.toList.length = s.size := by simp
  obtain ⟨l, hl⟩ := list_head s h0
  rw [hl] at hlen ⊢
  simp only [decR]
  rw [if_pos (.inr (by rw [hlen, hn]; exact h))]
theorem decR_long (s : ByteArray) (h0 : 0 < s.size) {n : Nat} (hn : sizeU s[0] = n) (h1 : n ≠ 0) (h : n ≤ s.size) :
    decR s.data.toList = if okAll n (s.data.toList.take n) then some (valL (modU n) (s.data.toList.take n), n) else none := by
  have hlen : s.data.toList.length = s.size := by simp
  obtain ⟨l, hl⟩ := list_head s h0
  rw [hl] at hlen ⊢
  simp only [decR]
  rw [hn, if_neg (by rw [hlen]; omega)]
theorem begins_all (s : ByteArray) (w : World) (h0 : 0 < s.size) (hn : sizeU s[0] ≠ 0) (hsz : s.size ≤ sizeU s[0]) : Calls Tryz.prog 124 #[.string s] w fun e w' => BegPost (sizeU s[0]) s e ∧ Below w.heap.size w w' := by
  rcases (sizeU_of s[0]).1 with h | ⟨h, _⟩ | ⟨h, _⟩ | ⟨h, _⟩ | ⟨h, _⟩
  · exact absurd h hn
  · rw [h] at hsz ⊢; exact begins_1 s w h0 h hsz
  · rw [h] at hsz ⊢; exact begins_2 s w h0 h hsz
  · rw [h] at hsz ⊢; exact begins_3 s w h0 h hsz
  · rw [h] at hsz ⊢; exact begins_4 s w h0 h hsz
theorem extract_toList (s : ByteArray) (n : Nat) : (s.extract 0 n).data.toList = s.data.toList.take n := by rw [extract_mk]; simp
theorem begins_take (s : ByteArray) (w : World) (h0 : 0 < s.size) {n : Nat} (hn : sizeU s[0] = n) (h1 : n ≠ 0) (h : n ≤ s.size) :
    Calls Tryz.prog 124 #[.string (s.extract 0 n)] w fun e w' => e = .returned (.tuple #[.int .i64 n, .bool (okAll n (s.data.toList.take n))]) ∧ Below w.heap.size w w' := by
  have hsz : (s.extract 0 n).size = n := by rw [ByteArray.size_extract]; omega
  have hg : (s.extract 0 n)[0]'(by omega) = s[0] := by rw [ByteArray.getElem_extract]
  have := begins_all (s.extract 0 n) w (by omega) (by rw [hg, hn]; exact h1) (by rw [hg, hn, hsz]; omega)
  refine this.mono ?_
  rintro e w' ⟨⟨b, rfl, hb⟩, hB⟩
  rw [hg, hn] at hb ⊢
  rw [hb hsz, extract_toList]
  exact ⟨rfl, hB⟩
theorem fld_at0 (w : World) : (Instr.field 130 (.agg #[.int .u8 0, .int .u8 127, .int .u8 127, .int .i32 0, .int .i32 127]) 2).run Tryz.prog w = .ok (.int .u8 127) w := by
  simp [Instr.field, go_sem, Tryz.underlying130, asAgg]
theorem fld_at1 (w : World) : (Instr.field 130 (.agg #[.int .u8 194, .int .u8 223, .int .u8 31, .int .i32 128, .int .i32 2047]) 2).run Tryz.prog w = .ok (.int .u8 31) w := by
  simp [Instr.field, go_sem, Tryz.underlying130, asAgg]
theorem fld_at2 (w : World) : (Instr.field 130 (.agg #[.int .u8 224, .int .u8 239, .int .u8 15, .int .i32 2048, .int .i32 65535]) 2).run Tryz.prog w = .ok (.int .u8 15) w := by
  simp [Instr.field, go_sem, Tryz.underlying130, asAgg]
theorem fld_at3 (w : World) : (Instr.field 130 (.agg #[.int .u8 240, .int .u8 244, .int .u8 7, .int .i32 65536, .int .i32 1114111]) 2).run Tryz.prog w = .ok (.int .u8 7) w := by
  simp [Instr.field, go_sem, Tryz.underlying130, asAgg]
theorem valL_next {m k : Nat} (s : ByteArray) (hk : 1 ≤ k) (hs : k < s.size) : valL m (s.data.toList.take (k + 1)) = valL m (s.data.toList.take k) * 64 + s[k].toNat % 64 := by
  have hl : k < s.data.toList.length := by simpa using hs
  have hg : s.data.toList[k] = s[k] := by rw [Array.getElem_toList]; rfl
  have e := List.take_succ_eq_append_getElem hl
  rw [hg] at e
  rw [e, valL_snoc _ _ _ (by intro h0; have := congrArg List.length h0; rw [List.length_take, List.length_nil] at this; omega)]
theorem decR_zero (s : ByteArray) (h0 : 0 < s.size) (hn : sizeU s[0] = 0) : decR s.data.toList = none := by
  obtain ⟨l, hl⟩ := list_head s h0
  rw [hl]
  simp only [decR]
  rw [if_pos (.inl hn)]
set_option maxHeartbeats 2000000 in
set_option maxRecDepth 100000 in
theorem first_0 (s : ByteArray) (w : World) (hs : s.size ≤ 140737488355328) (h0 : 0 < s.size) (hn : sizeU s[0] = 0) : Calls Tryz.prog 92 #[.string s] w fun e w' => FirstPost s e ∧ Below w.heap.size w w' := by
  have hz := decR_zero s h0 hn
  generalize hc : s[0] = c at *
  have Hz := Lib.hid hz
  have Hn := Lib.hid hn
  clear hn hz
  go_enter Tryz.func92, Tryz.ntmps92
  go_wp2_with (go_at_call 123; refine (sizeOf_any c _).mono ?_; rw [Hn.out]; rintro e w1 ⟨rfl, hb⟩; have HB := Aside0.mk hb; clear hb)
  exact bodyPost_ret (v := .tuple #[.int .i32 0, .int .i64 0, .int .i64 6]) (by simp [results, Tryz.results92, go_sem]) rfl ⟨FirstPost.no Hz.out _ (by decide), HB.out⟩

set_option maxHeartbeats 2000000 in
set_option maxRecDepth 100000 in
theorem first_1 (s : ByteArray) (w : World) (hs : s.size ≤ 140737488355328) (h0 : 0 < s.size) (hn : sizeU s[0] = 1) : Calls Tryz.prog 92 #[.string s] w fun e w' => FirstPost s e ∧ Below w.heap.size w w' := by
  have i1 := cls_at0
  have f1 := fld_at0
  have hv0 := valL_one 1 s h0
  have hv0 : valL (modU 1) (s.data.toList.take 1) = (s[0]).toNat % 128 := hv0
  have hshort := decR_short s h0 (n := 1) hn
  have hlong := decR_long s h0 (n := 1) hn (by omega)
  have hbs := fun w => begins_all s w h0 (by rw [hn]; omega)
  have hbt := fun w (h : 1 ≤ s.size) => begins_take s w h0 (n := 1) hn (by omega) h
  rw [hn] at hbs
  generalize hc : s[0] = c at *
  have Hshort := Lib.hid hshort
  have Hlong := Lib.hid hlong
  have Hbs := Lib.hid hbs
  have Hbt := Lib.hid hbt
  have Hn := Lib.hid hn
  have Hv0 := Lib.hid hv0
  clear hv0 hshort hlong hbs hbt
  have hb31 : bits BinOp.and IntKind.u8 (c.toNat : Int) 127 = ((c.toNat % 128 : Nat) : Int) := by have := c.toNat_lt; rw [and127 c]; omega
  have hl0 : c.toNat % 128 < 128 := by omega
  generalize hq : c.toNat % 128 = q0 at *
  have Hq := Lib.hid hq
  have hw32 : wrap32 (q0 : Int) = q0 := by unfold wrap32; omega
  clear hn hq
  rcases Nat.lt_or_ge s.size 1 with hlt | hge
  · omega
  · have h20 : decide ((s.size : Int) < 1) = false := decide_eq_false (by omega)
    go_enter Tryz.func92, Tryz.ntmps92
    go_wp2_with (first | (go_at_call 123; refine (sizeOf_any c _).mono ?_; rw [Hn.out]; rintro e w1 ⟨rfl, hb⟩; have HB := Aside0.mk hb; clear hb) | (go_at_call 124; refine (Hbt.out _ hge).mono ?_; rintro e w2 ⟨rfl, hb2⟩; have HB2 := Aside0.mk hb2; clear hb2; generalize hok : okAll 1 (s.data.toList.take 1) = ok at *; have Hok := Lib.hid hok; clear hok; rcases Bool.eq_false_or_eq_true ok with rfl | rfl) | (go_at_call 93; refine (classes_any _).mono ?_; rintro e w3 ⟨rfl, hb3⟩; have HB3 := Aside0.mk hb3; clear hb3))
    · have hwn : IntKind.i64.wrap 0 = 0 := by decide
      have hwq : IntKind.i32.wrap (q0 : Int) = q0 := by rw [IntKind.wrap_i32]; omega
      have HW := Aside0.mk (HB.out.trans (HB2.out.mono HB.out.size))
      go_region_held3 (fun w' => Aside0 (Below w.heap.size w w')) (first | exact ⟨HW.out.drew⟩ | exact ⟨HW.out.drew.trans (HB3.out.mono HW.out.drew.size)⟩) ((go_at_call 93; refine (classes_any _).mono ?_; rintro e w3 ⟨rfl, hb3⟩; have HB3 := Aside0.mk hb3; clear hb3))
      all_goals
        have HW3 : Aside0 (Below w.heap.size w w3) := ⟨HW.out.drew.trans (HB3.out.mono HW.out.drew.size)⟩
        go_wp2
        go_loopw [10, 11] (fun v10 v11 wr => ∃ k r : Nat, 1 ≤ k ∧ k ≤ 1 ∧ v11 = .int .i64 k ∧ v10 = .int .i32 r ∧ r < bnd k ∧ Aside0 (r = valL (modU 1) (s.data.toList.take k)) ∧ Aside0 (Below w.heap.size w wr)) (fun _ v11 _ => 1 - (intOf v11).toNat)
        case atStart => exact ⟨1, q0, by omega, by omega, rfl, rfl, by show q0 < 128; omega, ⟨Hv0.out.symm⟩, HW3⟩
        case round =>
          obtain ⟨k, r0, hk1, hk2, rfl, rfl, hlo, HV, HR⟩ := hrel
          have hk5 : k = 1 := by omega
          rcases hk5 with rfl
          · go_wp2
            refine bodyPost_ret (v := .tuple #[.int .i32 r0, .int .i64 1, .int .i64 0]) (by simp [results, Tryz.results92, go_sem]) rfl ⟨?_, HR.out⟩
            rw [HV.out]
            exact FirstPost.yes (by rw [Hlong.out hge]; rfl)
    · exact bodyPost_ret (v := .tuple #[.int .i32 0, .int .i64 0, .int .i64 3]) (by simp [results, Tryz.results92, go_sem]) rfl ⟨FirstPost.no (by rw [Hlong.out hge]; rfl) _ (by decide), HB.out.trans (HB2.out.mono HB.out.size)⟩

set_option maxHeartbeats 2000000 in
set_option maxRecDepth 100000 in
theorem first_2 (s : ByteArray) (w : World) (hs : s.size ≤ 140737488355328) (h0 : 0 < s.size) (hn : sizeU s[0] = 2) : Calls Tryz.prog 92 #[.string s] w fun e w' => FirstPost s e ∧ Below w.heap.size w w' := by
  have i1 := cls_at1
  have f1 := fld_at1
  have hv0 := valL_one 2 s h0
  have hv0 : valL (modU 2) (s.data.toList.take 1) = (s[0]).toNat % 32 := hv0
  have hshort := decR_short s h0 (n := 2) hn
  have hlong := decR_long s h0 (n := 2) hn (by omega)
  have hbs := fun w => begins_all s w h0 (by rw [hn]; omega)
  have hbt := fun w (h : 2 ≤ s.size) => begins_take s w h0 (n := 2) hn (by omega) h
  rw [hn] at hbs
  generalize hc : s[0] = c at *
  have Hshort := Lib.hid hshort
  have Hlong := Lib.hid hlong
  have Hbs := Lib.hid hbs
  have Hbt := Lib.hid hbt
  have Hn := Lib.hid hn
  have Hv0 := Lib.hid hv0
  clear hv0 hshort hlong hbs hbt
  have hb31 : bits BinOp.and IntKind.u8 (c.toNat : Int) 31 = ((c.toNat % 32 : Nat) : Int) := by have := c.toNat_lt; rw [u8_and31 _ (by omega) (by omega)]; omega
  have hl0 : c.toNat % 32 < 32 := by omega
  generalize hq : c.toNat % 32 = q0 at *
  have Hq := Lib.hid hq
  have hw32 : wrap32 (q0 : Int) = q0 := by unfold wrap32; omega
  clear hn hq
  rcases Nat.lt_or_ge s.size 2 with hlt | hge
  · have h20 : decide ((s.size : Int) < 2) = true := decide_eq_true (by omega)
    go_enter Tryz.func92, Tryz.ntmps92
    go_wp2_with (first | (go_at_call 123; refine (sizeOf_any c _).mono ?_; rw [Hn.out]; rintro e w1 ⟨rfl, hb⟩; have HB := Aside0.mk hb; clear hb) | (go_at_call 124; refine (Hbs.out _ (by omega)).mono ?_; rintro e w2 ⟨hbp, hb2⟩; unfold BegPost at hbp; obtain ⟨b, rfl, hb1⟩ := hbp; have HB2 := Aside0.mk hb2; have HB1 := Lib.hid hb1; clear hb1 hb2; rcases Bool.eq_false_or_eq_true b with rfl | rfl))
    · exact bodyPost_ret (v := .tuple #[.int .i32 0, .int .i64 0, .int .i64 23]) (by simp [results, Tryz.results92, go_sem]) rfl ⟨FirstPost.no (Hshort.out hlt) _ (by decide), HB.out.trans (HB2.out.mono HB.out.size)⟩
    · exact bodyPost_ret (v := .tuple #[.int .i32 0, .int .i64 0, .int .i64 3]) (by simp [results, Tryz.results92, go_sem]) rfl ⟨FirstPost.no (Hshort.out hlt) _ (by decide), HB.out.trans (HB2.out.mono HB.out.size)⟩
  · have h20 : decide ((s.size : Int) < 2) = false := decide_eq_false (by omega)
    go_enter Tryz.func92, Tryz.ntmps92
    go_wp2_with (first | (go_at_call 123; refine (sizeOf_any c _).mono ?_; rw [Hn.out]; rintro e w1 ⟨rfl, hb⟩; have HB := Aside0.mk hb; clear hb) | (go_at_call 124; refine (Hbt.out _ hge).mono ?_; rintro e w2 ⟨rfl, hb2⟩; have HB2 := Aside0.mk hb2; clear hb2; generalize hok : okAll 2 (s.data.toList.take 2) = ok at *; have Hok := Lib.hid hok; clear hok; rcases Bool.eq_false_or_eq_true ok with rfl | rfl) | (go_at_call 93; refine (classes_any _).mono ?_; rintro e w3 ⟨rfl, hb3⟩; have HB3 := Aside0.mk hb3; clear hb3))
    · have hwn : IntKind.i64.wrap 1 = 1 := by decide
      have hwq : IntKind.i32.wrap (q0 : Int) = q0 := by rw [IntKind.wrap_i32]; omega
      have HW := Aside0.mk (HB.out.trans (HB2.out.mono HB.out.size))
      go_region_held3 (fun w' => Aside0 (Below w.heap.size w w')) (first | exact ⟨HW.out.drew⟩ | exact ⟨HW.out.drew.trans (HB3.out.mono HW.out.drew.size)⟩) ((go_at_call 93; refine (classes_any _).mono ?_; rintro e w3 ⟨rfl, hb3⟩; have HB3 := Aside0.mk hb3; clear hb3))
      all_goals
        have HW3 : Aside0 (Below w.heap.size w w3) := ⟨HW.out.drew.trans (HB3.out.mono HW.out.drew.size)⟩
        go_wp2
        go_loopw [10, 11] (fun v10 v11 wr => ∃ k r : Nat, 1 ≤ k ∧ k ≤ 2 ∧ v11 = .int .i64 k ∧ v10 = .int .i32 r ∧ r < bnd k ∧ Aside0 (r = valL (modU 2) (s.data.toList.take k)) ∧ Aside0 (Below w.heap.size w wr)) (fun _ v11 _ => 2 - (intOf v11).toNat)
        case atStart => exact ⟨1, q0, by omega, by omega, rfl, rfl, by show q0 < 128; omega, ⟨Hv0.out.symm⟩, HW3⟩
        case round =>
          obtain ⟨k, r0, hk1, hk2, rfl, rfl, hlo, HV, HR⟩ := hrel
          have hk5 : k = 1 ∨ k = 2 := by omega
          rcases hk5 with rfl | rfl
          · simp only [bnd] at hlo
            have hst := valL_next (m := modU 2) (k := 1) s (by omega) (by omega)
            generalize hd : s[1] = d at *
            have Hst := Lib.hid hst
            clear hst
            have hd256 := d.toNat_lt
            have hb63 : bits BinOp.and IntKind.u8 (d.toNat : Int) 63 = ((d.toNat % 64 : Nat) : Int) := by rw [u8_and63 _ (by omega) (by omega)]; omega
            have hl64 : d.toNat % 64 < 64 := by omega
            generalize hr : d.toNat % 64 = r at *
            have Hr := Lib.hid hr
            clear hr
            go_wp2
            go_roundw
            case rel => exact ⟨2, r0 * 64 + r, by omega, by omega, rfl, by go_num, by show _ < 8192; omega, ⟨by rw [Hst.out, HV.out]⟩, HR⟩
            case measure => simp [intOf]
          · go_wp2
            refine bodyPost_ret (v := .tuple #[.int .i32 r0, .int .i64 2, .int .i64 0]) (by simp [results, Tryz.results92, go_sem]) rfl ⟨?_, HR.out⟩
            rw [HV.out]
            exact FirstPost.yes (by rw [Hlong.out hge]; rfl)
    · exact bodyPost_ret (v := .tuple #[.int .i32 0, .int .i64 0, .int .i64 3]) (by simp [results, Tryz.results92, go_sem]) rfl ⟨FirstPost.no (by rw [Hlong.out hge]; rfl) _ (by decide), HB.out.trans (HB2.out.mono HB.out.size)⟩

set_option maxHeartbeats 2000000 in
set_option maxRecDepth 100000 in
theorem first_3 (s : ByteArray) (w : World) (hs : s.size ≤ 140737488355328) (h0 : 0 < s.size) (hn : sizeU s[0] = 3) : Calls Tryz.prog 92 #[.string s] w fun e w' => FirstPost s e ∧ Below w.heap.size w w' := by
  have i1 := cls_at2
  have f1 := fld_at2
  have hv0 := valL_one 3 s h0
  have hv0 : valL (modU 3) (s.data.toList.take 1) = (s[0]).toNat % 16 := hv0
  have hshort := decR_short s h0 (n := 3) hn
  have hlong := decR_long s h0 (n := 3) hn (by omega)
  have hbs := fun w => begins_all s w h0 (by rw [hn]; omega)
  have hbt := fun w (h : 3 ≤ s.size) => begins_take s w h0 (n := 3) hn (by omega) h
  rw [hn] at hbs
  generalize hc : s[0] = c at *
  have Hshort := Lib.hid hshort
  have Hlong := Lib.hid hlong
  have Hbs := Lib.hid hbs
  have Hbt := Lib.hid hbt
  have Hn := Lib.hid hn
  have Hv0 := Lib.hid hv0
  clear hv0 hshort hlong hbs hbt
  have hb31 : bits BinOp.and IntKind.u8 (c.toNat : Int) 15 = ((c.toNat % 16 : Nat) : Int) := by have := c.toNat_lt; rw [u8_and15 _ (by omega) (by omega)]; omega
  have hl0 : c.toNat % 16 < 16 := by omega
  generalize hq : c.toNat % 16 = q0 at *
  have Hq := Lib.hid hq
  have hw32 : wrap32 (q0 : Int) = q0 := by unfold wrap32; omega
  clear hn hq
  rcases Nat.lt_or_ge s.size 3 with hlt | hge
  · have h20 : decide ((s.size : Int) < 3) = true := decide_eq_true (by omega)
    go_enter Tryz.func92, Tryz.ntmps92
    go_wp2_with (first | (go_at_call 123; refine (sizeOf_any c _).mono ?_; rw [Hn.out]; rintro e w1 ⟨rfl, hb⟩; have HB := Aside0.mk hb; clear hb) | (go_at_call 124; refine (Hbs.out _ (by omega)).mono ?_; rintro e w2 ⟨hbp, hb2⟩; unfold BegPost at hbp; obtain ⟨b, rfl, hb1⟩ := hbp; have HB2 := Aside0.mk hb2; have HB1 := Lib.hid hb1; clear hb1 hb2; rcases Bool.eq_false_or_eq_true b with rfl | rfl))
    · exact bodyPost_ret (v := .tuple #[.int .i32 0, .int .i64 0, .int .i64 23]) (by simp [results, Tryz.results92, go_sem]) rfl ⟨FirstPost.no (Hshort.out hlt) _ (by decide), HB.out.trans (HB2.out.mono HB.out.size)⟩
    · exact bodyPost_ret (v := .tuple #[.int .i32 0, .int .i64 0, .int .i64 3]) (by simp [results, Tryz.results92, go_sem]) rfl ⟨FirstPost.no (Hshort.out hlt) _ (by decide), HB.out.trans (HB2.out.mono HB.out.size)⟩
  · have h20 : decide ((s.size : Int) < 3) = false := decide_eq_false (by omega)
    go_enter Tryz.func92, Tryz.ntmps92
    go_wp2_with (first | (go_at_call 123; refine (sizeOf_any c _).mono ?_; rw [Hn.out]; rintro e w1 ⟨rfl, hb⟩; have HB := Aside0.mk hb; clear hb) | (go_at_call 124; refine (Hbt.out _ hge).mono ?_; rintro e w2 ⟨rfl, hb2⟩; have HB2 := Aside0.mk hb2; clear hb2; generalize hok : okAll 3 (s.data.toList.take 3) = ok at *; have Hok := Lib.hid hok; clear hok; rcases Bool.eq_false_or_eq_true ok with rfl | rfl) | (go_at_call 93; refine (classes_any _).mono ?_; rintro e w3 ⟨rfl, hb3⟩; have HB3 := Aside0.mk hb3; clear hb3))
    · have hwn : IntKind.i64.wrap 2 = 2 := by decide
      have hwq : IntKind.i32.wrap (q0 : Int) = q0 := by rw [IntKind.wrap_i32]; omega
      have HW := Aside0.mk (HB.out.trans (HB2.out.mono HB.out.size))
      go_region_held3 (fun w' => Aside0 (Below w.heap.size w w')) (first | exact ⟨HW.out.drew⟩ | exact ⟨HW.out.drew.trans (HB3.out.mono HW.out.drew.size)⟩) ((go_at_call 93; refine (classes_any _).mono ?_; rintro e w3 ⟨rfl, hb3⟩; have HB3 := Aside0.mk hb3; clear hb3))
      all_goals
        have HW3 : Aside0 (Below w.heap.size w w3) := ⟨HW.out.drew.trans (HB3.out.mono HW.out.drew.size)⟩
        go_wp2
        go_loopw [10, 11] (fun v10 v11 wr => ∃ k r : Nat, 1 ≤ k ∧ k ≤ 3 ∧ v11 = .int .i64 k ∧ v10 = .int .i32 r ∧ r < bnd k ∧ Aside0 (r = valL (modU 3) (s.data.toList.take k)) ∧ Aside0 (Below w.heap.size w wr)) (fun _ v11 _ => 3 - (intOf v11).toNat)
        case atStart => exact ⟨1, q0, by omega, by omega, rfl, rfl, by show q0 < 128; omega, ⟨Hv0.out.symm⟩, HW3⟩
        case round =>
          obtain ⟨k, r0, hk1, hk2, rfl, rfl, hlo, HV, HR⟩ := hrel
          have hk5 : k = 1 ∨ k = 2 ∨ k = 3 := by omega
          rcases hk5 with rfl | rfl | rfl
          · simp only [bnd] at hlo
            have hst := valL_next (m := modU 3) (k := 1) s (by omega) (by omega)
            generalize hd : s[1] = d at *
            have Hst := Lib.hid hst
            clear hst
            have hd256 := d.toNat_lt
            have hb63 : bits BinOp.and IntKind.u8 (d.toNat : Int) 63 = ((d.toNat % 64 : Nat) : Int) := by rw [u8_and63 _ (by omega) (by omega)]; omega
            have hl64 : d.toNat % 64 < 64 := by omega
            generalize hr : d.toNat % 64 = r at *
            have Hr := Lib.hid hr
            clear hr
            go_wp2
            go_roundw
            case rel => exact ⟨2, r0 * 64 + r, by omega, by omega, rfl, by go_num, by show _ < 8192; omega, ⟨by rw [Hst.out, HV.out]⟩, HR⟩
            case measure => simp [intOf]
          · simp only [bnd] at hlo
            have hst := valL_next (m := modU 3) (k := 2) s (by omega) (by omega)
            generalize hd : s[2] = d at *
            have Hst := Lib.hid hst
            clear hst
            have hd256 := d.toNat_lt
            have hb63 : bits BinOp.and IntKind.u8 (d.toNat : Int) 63 = ((d.toNat % 64 : Nat) : Int) := by rw [u8_and63 _ (by omega) (by omega)]; omega
            have hl64 : d.toNat % 64 < 64 := by omega
            generalize hr : d.toNat % 64 = r at *
            have Hr := Lib.hid hr
            clear hr
            go_wp2
            go_roundw
            case rel => exact ⟨3, r0 * 64 + r, by omega, by omega, rfl, by go_num, by show _ < 524288; omega, ⟨by rw [Hst.out, HV.out]⟩, HR⟩
            case measure => simp [intOf]
          · go_wp2
            refine bodyPost_ret (v := .tuple #[.int .i32 r0, .int .i64 3, .int .i64 0]) (by simp [results, Tryz.results92, go_sem]) rfl ⟨?_, HR.out⟩
            rw [HV.out]
            exact FirstPost.yes (by rw [Hlong.out hge]; rfl)
    · exact bodyPost_ret (v := .tuple #[.int .i32 0, .int .i64 0, .int .i64 3]) (by simp [results, Tryz.results92, go_sem]) rfl ⟨FirstPost.no (by rw [Hlong.out hge]; rfl) _ (by decide), HB.out.trans (HB2.out.mono HB.out.size)⟩

set_option maxHeartbeats 2000000 in
set_option maxRecDepth 100000 in
theorem first_4 (s : ByteArray) (w : World) (hs : s.size ≤ 140737488355328) (h0 : 0 < s.size) (hn : sizeU s[0] = 4) : Calls Tryz.prog 92 #[.string s] w fun e w' => FirstPost s e ∧ Below w.heap.size w w' := by
  have i1 := cls_at3
  have f1 := fld_at3
  have hv0 := valL_one 4 s h0
  have hv0 : valL (modU 4) (s.data.toList.take 1) = (s[0]).toNat % 8 := hv0
  have hshort := decR_short s h0 (n := 4) hn
  have hlong := decR_long s h0 (n := 4) hn (by omega)
  have hbs := fun w => begins_all s w h0 (by rw [hn]; omega)
  have hbt := fun w (h : 4 ≤ s.size) => begins_take s w h0 (n := 4) hn (by omega) h
  rw [hn] at hbs
  generalize hc : s[0] = c at *
  have Hshort := Lib.hid hshort
  have Hlong := Lib.hid hlong
  have Hbs := Lib.hid hbs
  have Hbt := Lib.hid hbt
  have Hn := Lib.hid hn
  have Hv0 := Lib.hid hv0
  clear hv0 hshort hlong hbs hbt
  have hb31 : bits BinOp.and IntKind.u8 (c.toNat : Int) 7 = ((c.toNat % 8 : Nat) : Int) := by have := c.toNat_lt; rw [u8_and7 _ (by omega) (by omega)]; omega
  have hl0 : c.toNat % 8 < 8 := by omega
  generalize hq : c.toNat % 8 = q0 at *
  have Hq := Lib.hid hq
  have hw32 : wrap32 (q0 : Int) = q0 := by unfold wrap32; omega
  clear hn hq
  rcases Nat.lt_or_ge s.size 4 with hlt | hge
  · have h20 : decide ((s.size : Int) < 4) = true := decide_eq_true (by omega)
    go_enter Tryz.func92, Tryz.ntmps92
    go_wp2_with (first | (go_at_call 123; refine (sizeOf_any c _).mono ?_; rw [Hn.out]; rintro e w1 ⟨rfl, hb⟩; have HB := Aside0.mk hb; clear hb) | (go_at_call 124; refine (Hbs.out _ (by omega)).mono ?_; rintro e w2 ⟨hbp, hb2⟩; unfold BegPost at hbp; obtain ⟨b, rfl, hb1⟩ := hbp; have HB2 := Aside0.mk hb2; have HB1 := Lib.hid hb1; clear hb1 hb2; rcases Bool.eq_false_or_eq_true b with rfl | rfl))
    · exact bodyPost_ret (v := .tuple #[.int .i32 0, .int .i64 0, .int .i64 23]) (by simp [results, Tryz.results92, go_sem]) rfl ⟨FirstPost.no (Hshort.out hlt) _ (by decide), HB.out.trans (HB2.out.mono HB.out.size)⟩
    · exact bodyPost_ret (v := .tuple #[.int .i32 0, .int .i64 0, .int .i64 3]) (by simp [results, Tryz.results92, go_sem]) rfl ⟨FirstPost.no (Hshort.out hlt) _ (by decide), HB.out.trans (HB2.out.mono HB.out.size)⟩
  · have h20 : decide ((s.size : Int) < 4) = false := decide_eq_false (by omega)
    go_enter Tryz.func92, Tryz.ntmps92
    go_wp2_with (first | (go_at_call 123; refine (sizeOf_any c _).mono ?_; rw [Hn.out]; rintro e w1 ⟨rfl, hb⟩; have HB := Aside0.mk hb; clear hb) | (go_at_call 124; refine (Hbt.out _ hge).mono ?_; rintro e w2 ⟨rfl, hb2⟩; have HB2 := Aside0.mk hb2; clear hb2; generalize hok : okAll 4 (s.data.toList.take 4) = ok at *; have Hok := Lib.hid hok; clear hok; rcases Bool.eq_false_or_eq_true ok with rfl | rfl) | (go_at_call 93; refine (classes_any _).mono ?_; rintro e w3 ⟨rfl, hb3⟩; have HB3 := Aside0.mk hb3; clear hb3))
    · have hwn : IntKind.i64.wrap 3 = 3 := by decide
      have hwq : IntKind.i32.wrap (q0 : Int) = q0 := by rw [IntKind.wrap_i32]; omega
      have HW := Aside0.mk (HB.out.trans (HB2.out.mono HB.out.size))
      go_region_held3 (fun w' => Aside0 (Below w.heap.size w w')) (first | exact ⟨HW.out.drew⟩ | exact ⟨HW.out.drew.trans (HB3.out.mono HW.out.drew.size)⟩) ((go_at_call 93; refine (classes_any _).mono ?_; rintro e w3 ⟨rfl, hb3⟩; have HB3 := Aside0.mk hb3; clear hb3))
      all_goals
        have HW3 : Aside0 (Below w.heap.size w w3) := ⟨HW.out.drew.trans (HB3.out.mono HW.out.drew.size)⟩
        go_wp2
        go_loopw [10, 11] (fun v10 v11 wr => ∃ k r : Nat, 1 ≤ k ∧ k ≤ 4 ∧ v11 = .int .i64 k ∧ v10 = .int .i32 r ∧ r < bnd k ∧ Aside0 (r = valL (modU 4) (s.data.toList.take k)) ∧ Aside0 (Below w.heap.size w wr)) (fun _ v11 _ => 4 - (intOf v11).toNat)
        case atStart => exact ⟨1, q0, by omega, by omega, rfl, rfl, by show q0 < 128; omega, ⟨Hv0.out.symm⟩, HW3⟩
        case round =>
          obtain ⟨k, r0, hk1, hk2, rfl, rfl, hlo, HV, HR⟩ := hrel
          have hk5 : k = 1 ∨ k = 2 ∨ k = 3 ∨ k = 4 := by omega
          rcases hk5 with rfl | rfl | rfl | rfl
          · simp only [bnd] at hlo
            have hst := valL_next (m := modU 4) (k := 1) s (by omega) (by omega)
            generalize hd : s[1] = d at *
            have Hst := Lib.hid hst
            clear hst
            have hd256 := d.toNat_lt
            have hb63 : bits BinOp.and IntKind.u8 (d.toNat : Int) 63 = ((d.toNat % 64 : Nat) : Int) := by rw [u8_and63 _ (by omega) (by omega)]; omega
            have hl64 : d.toNat % 64 < 64 := by omega
            generalize hr : d.toNat % 64 = r at *
            have Hr := Lib.hid hr
            clear hr
            go_wp2
            go_roundw
            case rel => exact ⟨2, r0 * 64 + r, by omega, by omega, rfl, by go_num, by show _ < 8192; omega, ⟨by rw [Hst.out, HV.out]⟩, HR⟩
            case measure => simp [intOf]
          · simp only [bnd] at hlo
            have hst := valL_next (m := modU 4) (k := 2) s (by omega) (by omega)
            generalize hd : s[2] = d at *
            have Hst := Lib.hid hst
            clear hst
            have hd256 := d.toNat_lt
            have hb63 : bits BinOp.and IntKind.u8 (d.toNat : Int) 63 = ((d.toNat % 64 : Nat) : Int) := by rw [u8_and63 _ (by omega) (by omega)]; omega
            have hl64 : d.toNat % 64 < 64 := by omega
            generalize hr : d.toNat % 64 = r at *
            have Hr := Lib.hid hr
            clear hr
            go_wp2
            go_roundw
            case rel => exact ⟨3, r0 * 64 + r, by omega, by omega, rfl, by go_num, by show _ < 524288; omega, ⟨by rw [Hst.out, HV.out]⟩, HR⟩
            case measure => simp [intOf]
          · simp only [bnd] at hlo
            have hst := valL_next (m := modU 4) (k := 3) s (by omega) (by omega)
            generalize hd : s[3] = d at *
            have Hst := Lib.hid hst
            clear hst
            have hd256 := d.toNat_lt
            have hb63 : bits BinOp.and IntKind.u8 (d.toNat : Int) 63 = ((d.toNat % 64 : Nat) : Int) := by rw [u8_and63 _ (by omega) (by omega)]; omega
            have hl64 : d.toNat % 64 < 64 := by omega
            generalize hr : d.toNat % 64 = r at *
            have Hr := Lib.hid hr
            clear hr
            go_wp2
            go_roundw
            case rel => exact ⟨4, r0 * 64 + r, by omega, by omega, rfl, by go_num, by show _ < 33554432; omega, ⟨by rw [Hst.out, HV.out]⟩, HR⟩
            case measure => simp [intOf]
          · go_wp2
            refine bodyPost_ret (v := .tuple #[.int .i32 r0, .int .i64 4, .int .i64 0]) (by simp [results, Tryz.results92, go_sem]) rfl ⟨?_, HR.out⟩
            rw [HV.out]
            exact FirstPost.yes (by rw [Hlong.out hge]; rfl)
    · exact bodyPost_ret (v := .tuple #[.int .i32 0, .int .i64 0, .int .i64 3]) (by simp [results, Tryz.results92, go_sem]) rfl ⟨FirstPost.no (by rw [Hlong.out hge]; rfl) _ (by decide), HB.out.trans (HB2.out.mono HB.out.size)⟩
theorem first_any (s : ByteArray) (w : World) (hs : s.size ≤ 140737488355328) (h0 : 0 < s.size) : Calls Tryz.prog 92 #[.string s] w fun e w' => FirstPost s e ∧ Below w.heap.size w w' := by
  rcases (sizeU_of s[0]).1 with h | ⟨h, _⟩ | ⟨h, _⟩ | ⟨h, _⟩ | ⟨h, _⟩
  · exact first_0 s w hs h0 h
  · exact first_1 s w hs h0 h
  · exact first_2 s w hs h0 h
  · exact first_3 s w hs h0 h
  · exact first_4 s w hs h0 h
end Go.Proofs.YtfeciafdioepiaaGreatDoor
