/- The contracts of utf8's Encode at what was decoded, and of Printable, over this ; The contract of article's badByte over this translation.; Merged texts: H11, H12, H13, H14, H15; Contracts proved by hand over this translation, in the printed form: Cut, badByt; The contracts of the two Level over this translation. -/
import Derived.Test.YtfeciafdioepiaaGreatDoorHLjS6
import Derived.Test.YtfeciafdioepiaaGreatDoorProg
import Derived.Below
import Derived.Deep.Draws
import Derived.Deep.AppendLies
import Derived.Maps.AppendAt
import Derived.OwnWalk
import Derived.Laws.BytesArg
import Derived.Laws.MakeOwn
import Derived.Laws.OwnMore
import Derived.Deep.OwnRows
import Derived.Tactics
import Derived.Lib.ConvBytes
import Derived.Laws.Slices
import Derived.WalkKit
import Derived.KernelRfl
import Derived.RowKit3
import Derived.Deep.LoopGhost
import Derived.Deep.QuietTactic
import Derived.BigQuiet
import Derived.WideLaws
import Derived.Deep.DeepCutAuto
import Derived.Deep.CutBlock
import Derived.Deep.RegionHeld3
import Derived.Laws.Rows
import Derived.Lib.AppendStr
import Derived.ArgAppend
import Derived.Laws.IdiomCopy
import Derived.OrdersHeld
import Derived.Laws.BitsLemmas
import Derived.RowKit
import Derived.Test.YtfeciafdioepiaaGreatDoorHLjS3
import Derived.Test.YtfeciafdioepiaaGreatDoorHLjS0
import Derived.Test.YtfeciafdioepiaaGreatDoorHLjS1
import Derived.Laws.StructEq
import Derived.Lib.CountLaws
set_option linter.unusedVariables false
set_option linter.unusedSimpArgs false
namespace Go.Proofs.YtfeciafdioepiaaGreatDoor
open Go.RowKit Go.Shelf Go.Proofs Go.Proofs.YtfeciafdioepiaaGreatDoorW.PrintWords Go.Proofs.YtfeciafdioepiaaGreatDoorW.PrintMore Go.Proofs.YtfeciafdioepiaaGreatDoor.PA
attribute [local go_sem] Oper.semAt_some

theorem ofNat_eq {n : Nat} {c : UInt8} (h : n = c.toNat) : UInt8.ofNat n = c := by
  subst h; simp
/-- What a decoded beginning looks like. -/
theorem decR_form {l : List UInt8} {v n : Nat} (h : decR l = some (v, n)) :
    minU n ≤ v ∧ v ≤ maxU n ∧ (v < 55296 ∨ 57343 < v) ∧ ∃ c r, l = c :: r ∧ sizeU c = n ∧ n ≤ l.length ∧ ((l.take n).drop 1).all isCont = true ∧ v = valL (modU n) (l.take n) := by
  cases l with
  | nil => simp [decR] at h
  | cons c r =>
    simp only [decR] at h
    split at h
    · cases h
    · rename_i hc
      split at h
      · rename_i hok
        injection h with h
        injection h with h1 h2
        unfold okAll okVal at hok
        simp only [Bool.and_eq_true, Bool.not_eq_true', decide_eq_true_iff, Bool.and_eq_false_iff, decide_eq_false_iff_not] at hok
        obtain ⟨hcont, ⟨hmin, hmax⟩, hsur⟩ := hok
        rw [h1] at hmin hmax hsur
        rw [h2] at hmin hmax hcont h1 hc
        exact ⟨hmin, hmax, by omega, c, r, rfl, h2, by omega, hcont, h1.symm⟩
      · cases h
theorem isCont_form {d : UInt8} (h : isCont d = true) : 128 ≤ d.toNat ∧ d.toNat ≤ 191 := by
  unfold isCont at h; rw [decide_eq_true_iff] at h; omega
theorem encode_any {l : List UInt8} {v n : Nat} (h : decR l = some (v, n)) (w : World) : Calls Tryz.prog 67 #[.int .i32 v] w fun e w' => e = .returned (.tuple #[.string (mkS (l.take n)), .int .i64 0]) ∧ Below w.heap.size w w' := by
  obtain ⟨hmin, hmax, hsur, c, r, rfl, hs, hn, hcont, hv⟩ := decR_form h
  have hsz := (sizeU_of c).1
  rw [hs] at hsz
  rcases hsz with e | ⟨e, h1⟩ | ⟨e, h1, h2⟩ | ⟨e, h1, h2⟩ | ⟨e, h1, h2⟩
  · subst e
    have := decR_pos h
    omega
  · subst e
    have hl : (c :: r).take 1 = encL1 v := by
      have hv' : v = c.toNat % 128 := hv
      show [c] = [UInt8.ofNat v]
      rw [ofNat_eq (c := c) (by omega)]
    rw [hl]; exact encode_1 v w hmin hmax hsur
  · subst e
    cases r with
    | nil => simp at hn
    | cons d r =>
      have hd : isCont d = true := by simpa using hcont
      have hd := isCont_form hd
      have hv' : v = c.toNat % 32 * 64 + d.toNat % 64 := hv
      have hl : (c :: d :: r).take 2 = encL2 v := by
        show [c, d] = [UInt8.ofNat (192 + v / 64), UInt8.ofNat (128 + v % 64)]
        rw [ofNat_eq (c := c) (by omega), ofNat_eq (c := d) (by omega)]
      rw [hl]; exact encode_2 v w hmin hmax hsur
  · subst e
    cases r with
    | nil => simp at hn
    | cons d r =>
      cases r with
      | nil => simp at hn
      | cons d2 r =>
        have hd : isCont d = true ∧ isCont d2 = true := by simpa using hcont
        have hd1 := isCont_form hd.1
        have hd2 := isCont_form hd.2
        have hv' : v = (c.toNat % 16 * 64 + d.toNat % 64) * 64 + d2.toNat % 64 := hv
        have hl : (c :: d :: d2 :: r).take 3 = encL3 v := by
          show [c, d, d2] = [UInt8.ofNat (224 + v / 4096), UInt8.ofNat (128 + v / 64 % 64), UInt8.ofNat (128 + v % 64)]
          rw [ofNat_eq (c := c) (by omega), ofNat_eq (c := d) (by omega), ofNat_eq (c := d2) (by omega)]
        rw [hl]; exact encode_3 v w hmin hmax hsur
  · subst e
    cases r with
    | nil => simp at hn
    | cons d r =>
      cases r with
      | nil => simp at hn
      | cons d2 r =>
        cases r with
        | nil => simp at hn
        | cons d3 r =>
          have hd : isCont d = true ∧ isCont d2 = true ∧ isCont d3 = true := by simpa using hcont
          have hd1 := isCont_form hd.1
          have hd2 := isCont_form hd.2.1
          have hd3 := isCont_form hd.2.2
          have hv' : v = ((c.toNat % 8 * 64 + d.toNat % 64) * 64 + d2.toNat % 64) * 64 + d3.toNat % 64 := hv
          have hl : (c :: d :: d2 :: d3 :: r).take 4 = encL4 v := by
            show [c, d, d2, d3] = [UInt8.ofNat (240 + v / 262144), UInt8.ofNat (128 + v / 4096 % 64), UInt8.ofNat (128 + v / 64 % 64), UInt8.ofNat (128 + v % 64)]
            rw [ofNat_eq (c := c) (by omega), ofNat_eq (c := d) (by omega), ofNat_eq (c := d2) (by omega), ofNat_eq (c := d3) (by omega)]
          rw [hl]; exact encode_4 v w hmin hmax hsur
/-- The bytes of one code point decode to it. -/
theorem decR_take {l : List UInt8} {v n : Nat} (h : decR l = some (v, n)) : decR (l.take n) = some (v, n) := by
  obtain ⟨hmin, hmax, hsur, c, r, rfl, hs, hn, hcont, hv⟩ := decR_form h
  have hp := decR_pos h
  obtain ⟨m, rfl⟩ : ∃ m, n = m + 1 := ⟨n - 1, by omega⟩
  have ht : ((c :: r).take (m + 1)).take (m + 1) = (c :: r).take (m + 1) := by rw [List.take_take, Nat.min_self]
  rw [List.take_succ_cons] at ht hv hcont ⊢
  simp only [decR]
  rw [hs, if_neg (by rw [List.length_cons, List.length_take]; simp at hn; omega), ht]
  have hok : okAll (m + 1) (c :: r.take m) = true := by
    unfold okAll okVal
    rw [hcont, ← hv]
    simp only [Bool.and_eq_true, Bool.not_eq_true', decide_eq_true_iff, Bool.and_eq_false_iff, decide_eq_false_iff_not]
    exact ⟨trivial, ⟨hmin, hmax⟩, by omega⟩
  rw [if_pos hok, ← hv]
theorem runesU_one {l : List UInt8} {v n : Nat} (h : decR l = some (v, n)) : runesU (l.take n) = ([(0, v)], none) := by
  have hp := decR_pos h
  have ht := decR_take h
  have hlen : (l.take n).length = n := by rw [List.length_take]; omega
  obtain ⟨m, rfl⟩ : ∃ m, n = m + 1 := ⟨n - 1, by omega⟩
  unfold runesU
  rw [hlen, runesG_some ht, List.drop_eq_nil_of_le (by omega), runesG_nil]

def ctrlU (v : Nat) : Bool := decide (v ≤ 31) || (decide (127 ≤ v) && decide (v ≤ 159)) || v == 8232 || v == 8233
theorem controlF (v : Nat) : utf8_control.f 1 (v : Int) = some (ctrlU v) := by
  unfold utf8_control.f ctrlU
  by_cases h1 : v ≤ 31
  · rw [if_pos (by omega), decide_eq_true h1]; rfl
  · rw [if_neg (by omega), decide_eq_false h1]
    have e1 : ((v : Int) = 8232) ↔ v = 8232 := by omega
    have e2 : ((v : Int) = 8233) ↔ v = 8233 := by omega
    have key : ∀ q : Bool, utf8_control.j0 1 (v : Int) q = some (q || v == 8232 || v == 8233) := by
      intro q
      simp only [utf8_control.j0]
      cases q
      · rw [if_neg (by simp)]
        by_cases h8 : v = 8232
        · rw [if_pos (e1.2 h8)]; simp [h8]
        · rw [if_neg (fun h => h8 (e1.1 h))]
          by_cases h9 : v = 8233
          · rw [if_pos (e2.2 h9)]; simp [h9]
          · rw [if_neg (fun h => h9 (e2.1 h))]; simp [h8, h9]
      · rw [if_pos rfl]; rfl
    by_cases h2 : 127 ≤ v
    · rw [if_pos (by omega), key, decide_eq_true h2]
      have : decide ((v : Int) ≤ 159) = decide (v ≤ 159) := by rw [decide_eq_decide]; omega
      rw [this]; simp
    · rw [if_neg (by omega), key, decide_eq_false h2]; simp
theorem blkB {B : Nat} {w W : World} (h : Below B w W) {c : Nat} {o : Obj} (hc : w.heap[c]? = some o) (hB : c < B) : W.heap[c]? = some o := (h.block c hB).trans hc

theorem keeps_drewN (W : World) (m : Nat) : KeepsOthers W (W.drewN m) := ⟨Nat.le_refl _, fun _ _ h _ => h⟩
def printU (l : List UInt8) : Bool := validU l && (runesU l).1.all fun x => !ctrlU x.2
set_option maxHeartbeats 1000000 in
set_option maxRecDepth 100000 in
theorem uprintable_any (s : ByteArray) (w : World) (hs : s.size ≤ 140737488355328) : Calls Tryz.prog 68 #[.string s] w fun e w' => e = .returned (.bool (printU s.data.toList)) ∧ Below w.heap.size w w' := by
  have hv := fun w => valid_any s w hs
  unfold printU
  cases hval : validU s.data.toList
  · rw [hval] at hv
    have Hv := Lib.hid hv
    clear hv hval
    rw [Bool.false_and]
    go_enter Tryz.func68, Tryz.ntmps68
    have hres := heap_alloc_last w (.cells #[.bool false] 4)
    go_wp2_with (go_at_call 95; refine (Hv.out _).mono ?_; rintro e w1 ⟨rfl, hb⟩; have HB := Aside0.mk hb; have hr1 := blkB hb hres (by simp); have hcell := (blk_cell hr1 0).trans rfl; have hfr := blk_frozen hr1 0; clear hb)
    have hc := World.cell?_setCell_same' w1 ⟨w.heap.size, 0, none⟩ (.bool false) (by rw [hcell]; rfl)
    have hB1 : Below w.heap.size w w1 := ((Below.refl _ w).alloc (Nat.le_refl _) _).trans (HB.out.mono (by simp))
    exact bodyPost_ret (v := .bool false) (by simp [results, Tryz.results68, go_sem, hc]) rfl ⟨rfl, hB1.setCell (p := ⟨w.heap.size, 0, none⟩) (Nat.le_refl _) _⟩
  · rw [hval] at hv
    have Hv := Lib.hid hv
    clear hv hval
    rw [Bool.true_and]
    refine (callsIn_wide (n := 3)).1 ?_
    refine callsIn_of_wp_marks Tryz.func68 rfl trivial ?_ rfl
    simp only [Tryz.ntmps68, List.size_toArray, List.length_cons, List.length_nil, Nat.reduceAdd, Nat.reduceSub, Array.replicate_succ, Array.replicate_zero, List.push_toArray, List.append_toArray, List.nil_append, List.cons_append]
    have hres := heap_alloc_last w (.cells #[.bool false] 4)
    gi_wp2_with (first | (refine ⟨trivial, ?_⟩; gi_at_call 95; refine (callsIn_wide.2 (Hv.out _)).mono ?_; rintro e w1 ⟨rfl, hb⟩; have HB := Aside0.mk hb; have hr1 := blkB hb hres (by simp); clear hb) | (refine ⟨trivial, ?_⟩; gi_at_call 66; refine (callsIn_wide.2 (runes_any s _)).mono ?_; rintro e w' ⟨rfl, rfl⟩))
    have hB1 : Below w.heap.size w w1 := ((Below.refl _ w).alloc (Nat.le_refl _) _).trans (HB.out.mono (by simp))
    have hlt1 : w.heap.size < w1.heap.size := (Array.getElem?_eq_some_iff.1 hr1).1
    have hc : (w1.alloc (.cells #[.string s] 9)).heap[w.heap.size]? = some (.cells #[.bool false] 4 (0, 0)) := blk_alloc hr1 _
    have hb := heap_alloc_last w1 (.cells #[.string s] 9)
    obtain ⟨W0, hW0⟩ : ∃ W0, w1.alloc (.cells #[.string s] 9) = W0 := ⟨_, rfl⟩
    have hsz : W0.heap.size = w1.heap.size + 1 := by rw [← hW0]; simp
    have hB0 : Below w.heap.size w W0 := by rw [← hW0]; exact hB1.alloc (by omega) _
    rw [hW0] at hc hb ⊢
    have Hsz := Lib.hid hsz
    have Hlt := Lib.hid hlt1
    clear hW0 hsz hlt1
    refine range_law (gf := 91) (lb := #[.pointer (some ⟨w1.heap.size, 0, none⟩)]) rfl (enters_of Tryz.func91 (by kernel_rfl) rfl) (runes_iter s w1.heap.size hs) (fun _ _ h => ⟨h.size, fun k o hk _ => blkB h hk (Array.getElem?_eq_some_iff.1 hk).1⟩) (fun _ => rfl)
      (fun pre W => (W.heap[w.heap.size]? = some (.cells #[.bool false] 4 (0, 0)) ∧ (pre.all fun x => !ctrlU x.2) = true) ∧ W.heap[w1.heap.size]? = some (.cells #[.string s] 9 (0, 0)) ∧ Below w.heap.size w W)
      (fun c pre W => c = .ret ∧ (pre.all fun x => !ctrlU x.2) = false ∧ W.heap[w.heap.size]? = some (.cells #[.bool false] 4 (0, 0)) ∧ Below w.heap.size w W)
      (fun pre W W' h hm => ⟨⟨blkB hm h.1.1 (Array.getElem?_eq_some_iff.1 h.1.1).1, h.1.2⟩, blkB hm h.2.1 (Array.getElem?_eq_some_iff.1 h.2.1).1, h.2.2.trans (hm.mono h.2.2.size)⟩)
      (fun pre W h => (blk_cell h.2.1 0).trans rfl)
      (fun pre W l o hl h => ⟨⟨blk_putObj h.1.1 (by have := Hsz.out; have := Hlt.out; omega), h.1.2⟩, blk_putObj h.2.1 (by have := Hsz.out; omega), below_putObj h.2.2 (Nat.le_refl _) (by have := Hsz.out; have := Hlt.out; omega) _⟩)
      (fun c pre W l o hl h => ⟨h.1, h.2.1, blk_putObj h.2.2.1 (by have := Hsz.out; have := Hlt.out; omega), below_putObj h.2.2.2 (Nat.le_refl _) (by have := Hsz.out; have := Hlt.out; omega) _⟩)
      (fun o o' => ⟨⟨blk_alloc2 hc, rfl⟩, blk_alloc2 hb, (hB0.alloc (by have := Hsz.out; have := Hlt.out; omega) _).alloc (by have := Hsz.out; have := Hlt.out; simp; omega) _⟩)
      (fun o o' => trivial)
      (fun x => { tmps := #[.string s, undef, .pointer (some ⟨w.heap.size, 0, none⟩), undef, .int .i32 x.2, .string s, .bool true, .bool false, .string s, .func (.func 91) #[] #[.pointer (some ⟨w1.heap.size, 0, none⟩)], .int .i64 x.1, .int .i32 x.2, undef, undef], defers := [] }) ?assign ?body ?done ?stop
    case assign =>
      intro l x W K hK
      gi_wp2
      exact hK
    case body =>
      rintro l pre x W ⟨⟨hcn, hp⟩, hbx, hB⟩ hlt
      have hcell := (blk_cell hcn 0).trans rfl
      have hfr := blk_frozen hcn 0
      have hall : ((pre ++ [x]).all fun x => !ctrlU x.2) = !ctrlU x.2 := by rw [List.all_append, hp]; simp
      have Hall := Lib.hid hall
      have hcf := controlF x.2
      clear hall hp
      cases hcx : ctrlU x.2
      · rw [hcx] at hcf
        have Hcf := Lib.hid hcf
        have Hcx := Lib.hid hcx
        clear hcf hcx
        gi_wp2_with (refine ⟨trivial, ?_⟩; gi_at_call 96; refine (CallsIn.inRound l (callsIn_wide.2 (utf8_control.calls _ _ _ _ Hcf.out))).mono ?_; rintro e w2 ⟨rfl, ⟨m, rfl⟩⟩)
        exact ⟨keeps_drewN W m, ⟨⟨hcn, by rw [Hall.out, Hcx.out]; rfl⟩, hbx, pw_below_drewN hB m⟩⟩
      · rw [hcx] at hcf
        have Hcf := Lib.hid hcf
        have Hcx := Lib.hid hcx
        clear hcf hcx
        gi_wp2_with (refine ⟨trivial, ?_⟩; gi_at_call 96; refine (CallsIn.inRound l (callsIn_wide.2 (utf8_control.calls _ _ _ _ Hcf.out))).mono ?_; rintro e w2 ⟨rfl, ⟨m, rfl⟩⟩)
        exact ⟨(keeps_drewN W m).trans (KeepsOthers.setCell _ _ _), rfl, by rw [Hall.out, Hcx.out]; rfl, (blk_set (blk_drewN hcn m) 0 _).trans rfl, (pw_below_drewN hB m).setCell (p := ⟨w.heap.size, 0, none⟩) (Nat.le_refl _) _⟩
    case done =>
      rintro D ys W hD rfl ⟨⟨hcn, hp⟩, _, hB⟩ hK
      have hcell := (blk_cell hcn 0).trans rfl
      have hfr := blk_frozen hcn 0
      gi_wp2
      have hK' := (KeepsOthers.setCell W ⟨w.heap.size, 0, none⟩ (.bool true)).same D _ hK rfl
      have hDne : w.heap.size ≠ D := by have := Hsz.out; have := Hlt.out; omega
      have hcb : ((W.setCell ⟨w.heap.size, 0, none⟩ (.bool true)).putObj D (.deferred none)).heap[w.heap.size]? = some (.cells #[.bool true] 4 (0, 0)) := blk_putObj ((blk_set hcn 0 (.bool true)).trans rfl) hDne
      have hc5 := (blk_cell hcb 0).trans rfl
      refine ⟨by simp, .inl ⟨_, _, rfl, run_takeDeferred hK', ?_⟩⟩
      refine ⟨.bool true, ?_, by rw [hp], below_putObj (hB.setCell (p := ⟨w.heap.size, 0, none⟩) (Nat.le_refl _) _) (Nat.le_refl _) (by have := Hsz.out; have := Hlt.out; omega) _⟩
      simp [results, Tryz.f68, go_sem, hc5]
    case stop =>
      rintro D c pre W hD hpre ⟨rfl, hp, hcn, hB⟩ hK
      have hcell := (blk_cell hcn 0).trans rfl
      gi_wp2
      have hDne : w.heap.size ≠ D := by have := Hsz.out; have := Hlt.out; omega
      have hcb : (W.putObj D (.deferred none)).heap[w.heap.size]? = some (.cells #[.bool false] 4 (0, 0)) := blk_putObj hcn hDne
      have hc5 := (blk_cell hcb 0).trans rfl
      refine ⟨by simp, .inl ⟨_, _, rfl, run_takeDeferred hK, ?_⟩⟩
      refine ⟨.bool false, ?_, ?_, below_putObj hB (Nat.le_refl _) (by have := Hsz.out; have := Hlt.out; omega) _⟩
      · simp [results, Tryz.f68, go_sem, hc5]
      · obtain ⟨r, hr⟩ := hpre
        rw [← hr, List.all_append, hp, Bool.false_and]
end Go.Proofs.YtfeciafdioepiaaGreatDoor
set_option linter.unusedVariables false
set_option linter.unusedSimpArgs false
namespace Go.Proofs.YtfeciafdioepiaaGreatDoor
open Go.RowKit Go.Shelf Go.Proofs Go.Proofs.YtfeciafdioepiaaGreatDoorW.PrintWords Go.Proofs.YtfeciafdioepiaaGreatDoorW.PrintMore Go.Proofs.YtfeciafdioepiaaGreatDoor.PA
attribute [local go_sem] Oper.semAt_some

/-- A code point that a line may not have. -/
def badV (v : Nat) : Bool := v != 9 && ctrlU v
/-- The offset of the first byte of a line that is not permitted, or -1. -/
def badU (l : List UInt8) : Int := match (runesU l).1.find? (fun x => badV x.2) with
  | some x => x.1
  | none => match (runesU l).2 with
    | some p => p
    | none => -1
theorem runesG_mem (l : List UInt8) (f : Nat) : ∀ k, ∀ x ∈ (runesG f k (l.drop k)).1, ∃ n, decR (l.drop x.1) = some (x.2, n) := by
  induction f with
  | zero => intro k x hx; simp [runesG] at hx
  | succ f ih =>
    intro k x hx
    cases hd : decR (l.drop k) with
    | none =>
      by_cases h0 : l.drop k = []
      · rw [h0, runesG_nil] at hx; simp at hx
      · rw [runesG_none h0 hd] at hx; simp at hx
    | some p =>
      obtain ⟨v, n⟩ := p
      rw [runesG_some hd, List.drop_drop] at hx
      rcases List.mem_cons.1 hx with rfl | hx
      · exact ⟨n, hd⟩
      · exact ih (k + n) x hx
theorem runesU_mem {l : List UInt8} {x : Nat × Nat} (h : x ∈ (runesU l).1) : ∃ n, decR (l.drop x.1) = some (x.2, n) := by
  refine runesG_mem l l.length 0 x ?_
  simpa [runesU] using h

theorem keeps_below {W W' : World} (h : Below W.heap.size W W') : KeepsOthers W W' := ⟨h.size, fun k o hk _ => blkB h hk (Array.getElem?_eq_some_iff.1 hk).1⟩
theorem blk_later {W W' : World} (h : Below W.heap.size W W') {c : Nat} {o : Obj} (hc : W.heap[c]? = some o) : W'.heap[c]? = some o := blkB h hc (Array.getElem?_eq_some_iff.1 hc).1
theorem below_later {B : Nat} {w W W' : World} (hB : Below B w W) (h : Below W.heap.size W W') (hw : B ≤ w.heap.size) : Below B w W' := hB.trans (h.mono (Nat.le_trans hw hB.size))
theorem badU_some {l : List UInt8} {x : Nat × Nat} {pre : List (Nat × Nat)} (h : pre <+: (runesU l).1) (hp : pre.find? (fun x => badV x.2) = some x) : badU l = x.1 := by
  obtain ⟨r, hr⟩ := h
  unfold badU
  rw [← hr, List.find?_append, hp]; rfl
set_option maxHeartbeats 1000000 in
set_option maxRecDepth 100000 in
theorem badByte_any (s : ByteArray) (w : World) (hs : s.size ≤ 140737488355328) : Calls Tryz.prog 42 #[.string s] w fun e w' => e = .returned (.int .i64 (badU s.data.toList)) ∧ Below w.heap.size w w' := by
  have hlen : s.data.toList.length = s.size := by simp
  have Hlen := Lib.hid hlen
  clear hlen
  refine (callsIn_wide (n := 3)).1 ?_
  refine callsIn_of_wp_marks Tryz.func42 rfl trivial ?_ rfl
  simp only [Tryz.ntmps42, List.size_toArray, List.length_cons, List.length_nil, Nat.reduceAdd, Nat.reduceSub, Array.replicate_succ, Array.replicate_zero, List.push_toArray, List.append_toArray, List.nil_append, List.cons_append]
  have hres := heap_alloc_last w (.cells #[.int .i64 0] 3)
  gi_wp2_with (refine ⟨trivial, ?_⟩; gi_at_call 66; refine (callsIn_wide.2 (runes_any s _)).mono ?_; rintro e w' ⟨rfl, rfl⟩)
  obtain ⟨w1, hw1⟩ : ∃ w1, w.alloc (.cells #[.int .i64 0] 3) = w1 := ⟨_, rfl⟩
  have hB1 : Below w.heap.size w w1 := by rw [← hw1]; exact (Below.refl _ w).alloc (Nat.le_refl _) _
  have hlt1 : w1.heap.size = w.heap.size + 1 := by rw [← hw1]; simp
  rw [hw1] at hres
  have hc : (w1.alloc (.cells #[.string s] 9)).heap[w.heap.size]? = some (.cells #[.int .i64 0] 3 (0, 0)) := blk_alloc hres _
  have hb := heap_alloc_last w1 (.cells #[.string s] 9)
  obtain ⟨W0, hW0⟩ : ∃ W0, w1.alloc (.cells #[.string s] 9) = W0 := ⟨_, rfl⟩
  have hsz : W0.heap.size = w1.heap.size + 1 := by rw [← hW0]; simp
  have hB0 : Below w.heap.size w W0 := by rw [← hW0]; exact hB1.alloc (by omega) _
  try simp only [World.size_alloc]
  rw [hw1, hW0]
  rw [hW0] at hc hb
  rw [hlt1] at hb hsz
  have Hsz := Lib.hid hsz
  clear hW0 hsz hw1 hB1 hres
  refine range_law (gf := 91) (lb := #[.pointer (some ⟨w.heap.size + 1, 0, none⟩)]) rfl (enters_of Tryz.func91 (by kernel_rfl) rfl) (runes_iter s (w.heap.size + 1) hs) (fun _ _ h => ⟨h.size, fun k o hk _ => blkB h hk (Array.getElem?_eq_some_iff.1 hk).1⟩) (fun _ => rfl)
    (fun pre W => (W.heap[w.heap.size]? = some (.cells #[.int .i64 0] 3 (0, 0)) ∧ pre.find? (fun x => badV x.2) = none) ∧ W.heap[w.heap.size + 1]? = some (.cells #[.string s] 9 (0, 0)) ∧ Below w.heap.size w W)
    (fun c pre W => c = .ret ∧ (∃ x, pre.find? (fun x => badV x.2) = some x ∧ W.heap[w.heap.size]? = some (.cells #[.int .i64 x.1] 3 (0, 0))) ∧ Below w.heap.size w W)
    (fun pre W W' h hm => ⟨⟨blkB hm h.1.1 (Array.getElem?_eq_some_iff.1 h.1.1).1, h.1.2⟩, blkB hm h.2.1 (Array.getElem?_eq_some_iff.1 h.2.1).1, h.2.2.trans (hm.mono h.2.2.size)⟩)
    (fun pre W h => (blk_cell h.2.1 0).trans rfl)
    (fun pre W l o hl h => ⟨⟨blk_putObj h.1.1 (by have := Hsz.out; omega), h.1.2⟩, blk_putObj h.2.1 (by have := Hsz.out; omega), below_putObj h.2.2 (Nat.le_refl _) (by have := Hsz.out; omega) _⟩)
    (fun c pre W l o hl h => by obtain ⟨h1, ⟨x, h2, h3⟩, h4⟩ := h; exact ⟨h1, ⟨x, h2, blk_putObj h3 (by have := Hsz.out; omega)⟩, below_putObj h4 (Nat.le_refl _) (by have := Hsz.out; omega) _⟩)
    (fun o o' => ⟨⟨blk_alloc2 hc, rfl⟩, blk_alloc2 hb, (hB0.alloc (by have := Hsz.out; omega) _).alloc (by have := Hsz.out; simp; omega) _⟩)
    (fun o o' => trivial)
    (fun x => { tmps := #[.string s, undef, .pointer (some ⟨w.heap.size, 0, none⟩), .int .i64 x.1, .int .i32 x.2, undef, undef, undef, undef, .string s, .func (.func 91) #[] #[.pointer (some ⟨w.heap.size + 1, 0, none⟩)], .int .i64 x.1, .int .i32 x.2, undef, undef, undef, undef, undef, undef, undef, undef, undef, undef, undef, undef, undef, undef, undef, undef, undef, undef, undef, undef, undef], defers := [] }) ?assign ?body ?done ?stop
  case assign =>
    intro l x W K hK
    gi_wp2
    exact hK
  case body =>
    rintro l pre x W ⟨⟨hcn, hp⟩, hbx, hB⟩ hlt
    have hcell := (blk_cell hcn 0).trans rfl
    have hfr := blk_frozen hcn 0
    obtain ⟨n, hd⟩ := runesU_mem (l := s.data.toList) (x := x) (by obtain ⟨r, hr⟩ := hlt; rw [← hr]; simp)
    have henc := encode_any hd
    have hone := runesU_one hd
    have hpn := decR_pos hd
    have hsz1 : (mkS ((s.data.toList.drop x.1).take n)).size ≤ 140737488355328 := by rw [mkS_size, List.length_take]; omega
    have hpr := fun w => uprintable_any (mkS ((s.data.toList.drop x.1).take n)) w hsz1
    have hpv : printU ((s.data.toList.drop x.1).take n) = !ctrlU x.2 := by unfold printU validU; rw [hone]; simp
    simp only [mkS_toList] at hpr
    rw [hpv] at hpr
    have hfind : (pre ++ [x]).find? (fun x => badV x.2) = if badV x.2 = true then some x else none := by rw [List.find?_append, hp]; simp [List.find?_cons]; split <;> simp_all
    have Hfind := Lib.hid hfind
    have Henc := Lib.hid henc
    have Hpr := Lib.hid hpr
    clear hfind henc hpr hone hd hpv hsz1 hp
    generalize mkS ((s.data.toList.drop x.1).take n) = c at *
    by_cases h9 : x.2 = 9
    · have h9' : ((x.2 : Int) != 9) = false := by rw [bne_eq_false_iff_eq]; omega
      have hbv : badV x.2 = false := by unfold badV; rw [h9]; rfl
      have Hbv := Lib.hid hbv
      clear hbv h9
      gi_wp2_with (first | (refine ⟨trivial, ?_⟩; gi_at_call 67; refine (CallsIn.inRound l (callsIn_wide.2 (Henc.out _))).mono ?_; rintro e w2 ⟨rfl, hb2⟩; have HB2 := Aside0.mk hb2; clear hb2))
      refine ⟨trivial, ?_⟩
      gi_wp2
      exact ⟨keeps_below HB2.out, ⟨⟨blk_later HB2.out hcn, by rw [Hfind.out, if_neg (by rw [Hbv.out]; simp)]⟩, blk_later HB2.out hbx, below_later hB HB2.out (Nat.le_refl _)⟩⟩
    · have h9' : ((x.2 : Int) != 9) = true := by rw [bne_iff_ne]; omega
      cases hcx : ctrlU x.2
      · rw [hcx] at Hpr
        have hbv : badV x.2 = false := by unfold badV; rw [hcx]; simp
        have Hbv := Lib.hid hbv
        clear hbv h9 hcx
        gi_wp2_with (first | (refine ⟨trivial, ?_⟩; gi_at_call 67; refine (CallsIn.inRound l (callsIn_wide.2 (Henc.out _))).mono ?_; rintro e w2 ⟨rfl, hb2⟩; have HB2 := Aside0.mk hb2; clear hb2) | (refine ⟨trivial, ?_⟩; gi_at_call 68; refine (CallsIn.inRound l (callsIn_wide.2 (Hpr.out _))).mono ?_; rintro e w3 ⟨rfl, hb3⟩; have HB3 := Aside0.mk hb3; clear hb3))
        exact ⟨(keeps_below HB2.out).trans (keeps_below HB3.out), ⟨⟨blk_later HB3.out (blk_later HB2.out hcn), by rw [Hfind.out, if_neg (by rw [Hbv.out]; simp)]⟩, blk_later HB3.out (blk_later HB2.out hbx), below_later (below_later hB HB2.out (Nat.le_refl _)) HB3.out (Nat.le_refl _)⟩⟩
      · rw [hcx] at Hpr
        have hbv : badV x.2 = true := by unfold badV; rw [hcx]; simp [h9]
        have Hbv := Lib.hid hbv
        clear hbv h9 hcx
        gi_wp2_with (first | (refine ⟨trivial, ?_⟩; gi_at_call 67; refine (CallsIn.inRound l (callsIn_wide.2 (Henc.out _))).mono ?_; rintro e w2 ⟨rfl, hb2⟩; have HB2 := Aside0.mk hb2; have hcn2 := blkB hb2 hcn (Array.getElem?_eq_some_iff.1 hcn).1; clear hb2) | (refine ⟨trivial, ?_⟩; gi_at_call 68; refine (CallsIn.inRound l (callsIn_wide.2 (Hpr.out _))).mono ?_; rintro e w3 ⟨rfl, hb3⟩; have HB3 := Aside0.mk hb3; have hcn3 := blkB hb3 hcn2 (Array.getElem?_eq_some_iff.1 hcn2).1; have hcell3 := (blk_cell hcn3 0).trans rfl; have hfr3 := blk_frozen hcn3 0; clear hb3))
        exact ⟨((keeps_below HB2.out).trans (keeps_below HB3.out)).trans (KeepsOthers.setCell _ _ _), rfl, ⟨x, by rw [Hfind.out, if_pos Hbv.out], (blk_set hcn3 0 _).trans rfl⟩, (below_later (below_later hB HB2.out (Nat.le_refl _)) HB3.out (Nat.le_refl _)).setCell (p := ⟨w.heap.size, 0, none⟩) (Nat.le_refl _) _⟩
  case done =>
    rintro D ys W hD rfl ⟨⟨hcn, hp⟩, _, hB⟩ hK
    have hck := check_any s W hs
    unfold CheckPost at hck
    have hbad : badU s.data.toList = match (runesU s.data.toList).2 with | some p => (p : Int) | none => -1 := by unfold badU; rw [hp]
    have Hbad := Lib.hid hbad
    clear hbad hp
    have hDne : w.heap.size ≠ D := by have := Hsz.out; omega
    have hlD : D < W.heap.size := (Array.getElem?_eq_some_iff.1 hK).1
    generalize hr2 : (runesU s.data.toList).2 = r2 at *
    clear hr2
    cases r2 with
    | none =>
      have Hck := Lib.hid hck
      clear hck
      gi_wp2_with (refine ⟨trivial, ?_⟩; gi_at_call 69; refine (callsIn_wide.2 Hck.out).mono ?_; rintro e w2 ⟨rfl, hb2⟩; have HB2 := Aside0.mk hb2; have hcn2 := blk_later hb2 hcn; have hcell2 := (blk_cell hcn2 0).trans rfl; have hfr2 := blk_frozen hcn2 0; clear hb2)
      have hK2 := (KeepsOthers.setCell w2 ⟨w.heap.size, 0, none⟩ (.int .i64 (-1))).same D _ (blk_later HB2.out hK) rfl
      have hcb : ((w2.setCell ⟨w.heap.size, 0, none⟩ (.int .i64 (-1))).putObj D (.deferred none)).heap[w.heap.size]? = some (.cells #[.int .i64 (-1)] 3 (0, 0)) := blk_putObj ((blk_set hcn2 0 (.int .i64 (-1))).trans rfl) hDne
      have hc5 := (blk_cell hcb 0).trans rfl
      refine ⟨by simp, .inl ⟨_, _, rfl, run_takeDeferred hK2, ?_⟩⟩
      refine ⟨.int .i64 (-1), ?_, by rw [Hbad.out], below_putObj ((below_later hB HB2.out (Nat.le_refl _)).setCell (p := ⟨w.heap.size, 0, none⟩) (Nat.le_refl _) _) (Nat.le_refl _) (by have := Hsz.out; omega) _⟩
      simp [results, Tryz.f42, go_sem, hc5]
    | some p =>
      have Hck := Lib.hid hck
      clear hck
      gi_wp2_with (refine ⟨trivial, ?_⟩; gi_at_call 69; refine (callsIn_wide.2 Hck.out).mono ?_; rintro e w2 ⟨⟨c, hc0, rfl⟩, hb2⟩; have HB2 := Aside0.mk hb2; have hcn2 := blk_later hb2 hcn; have hcell2 := (blk_cell hcn2 0).trans rfl; have hfr2 := blk_frozen hcn2 0; have hcb0 : (c != 0) = true := bne_iff_ne.2 hc0; clear hb2)
      have hK2 := (KeepsOthers.setCell w2 ⟨w.heap.size, 0, none⟩ (.int .i64 p)).same D _ (blk_later HB2.out hK) rfl
      have hcb : ((w2.setCell ⟨w.heap.size, 0, none⟩ (.int .i64 p)).putObj D (.deferred none)).heap[w.heap.size]? = some (.cells #[.int .i64 p] 3 (0, 0)) := blk_putObj ((blk_set hcn2 0 (.int .i64 p)).trans rfl) hDne
      have hc5 := (blk_cell hcb 0).trans rfl
      refine ⟨by simp, .inl ⟨_, _, rfl, run_takeDeferred hK2, ?_⟩⟩
      refine ⟨.int .i64 p, ?_, by rw [Hbad.out], below_putObj ((below_later hB HB2.out (Nat.le_refl _)).setCell (p := ⟨w.heap.size, 0, none⟩) (Nat.le_refl _) _) (Nat.le_refl _) (by have := Hsz.out; omega) _⟩
      simp [results, Tryz.f42, go_sem, hc5]
  case stop =>
    rintro D c pre W hD hpre ⟨rfl, ⟨x, hp, hcn⟩, hB⟩ hK
    have hDne : w.heap.size ≠ D := by have := Hsz.out; omega
    have hbu := badU_some hpre hp
    have Hbu := Lib.hid hbu
    clear hbu hp
    gi_wp2
    have hcb : (W.putObj D (.deferred none)).heap[w.heap.size]? = some (.cells #[.int .i64 x.1] 3 (0, 0)) := blk_putObj hcn hDne
    have hc5 := (blk_cell hcb 0).trans rfl
    refine ⟨by simp, .inl ⟨_, _, rfl, run_takeDeferred hK, ?_⟩⟩
    refine ⟨.int .i64 x.1, ?_, by rw [Hbu.out], below_putObj hB (Nat.le_refl _) (by have := Hsz.out; omega) _⟩
    simp [results, Tryz.f42, go_sem, hc5]
end Go.Proofs.YtfeciafdioepiaaGreatDoor
namespace Go.Proofs.YtfeciafdioepiaaGreatDoor.PB
open Go.Proofs.YtfeciafdioepiaaGreatDoor.PA
open Go.Proofs.YtfeciafdioepiaaGreatDoor
open Go.RowKit Go.Proofs.YtfeciafdioepiaaGreatDoorW.PrintWords Go.Proofs.YtfeciafdioepiaaGreatDoorW.PrintLast Go.Proofs.YtfeciafdioepiaaGreatDoorW.PrintMore
attribute [local go_sem] max2_int min2_int max_two min_two max_three min_three max_four min_four   -- for this text's walks alone
set_option linter.unusedVariables false
set_option linter.unusedSimpArgs false

/-! ### field_Field_Check: function 89 -/
def field_Field_Check.f (k : Nat) (a0_0 : ByteArray) (a0_1 : ByteArray) : Option (Int) := (GV.Words.f a0_1).bind fun t102 => ((PA.field_ValidName.f k a0_0).bind fun t105 => (if t105 = true then ((GV.Printable.f a0_1).bind fun t106 => (if t106 ≥ 0 then (some 6) else ((GV.Join.f t102 (⟨#[32]⟩ : ByteArray)).bind fun t107 => (if t107.toList = a0_1.toList then (if (a0_1.size : Int) > 8192 then (some 5) else ((GV.someLong.f t102 (Value.func (.func 120) #[] #[])).bind fun t108 => (if t108 = true then (some 5) else (some 0)))) else (some 3))))) else (some 12)))
set_option maxHeartbeats 8000000 in
set_option maxRecDepth 100000 in
theorem field_Field_Check.calls (k : Nat) (a0_0 : ByteArray) (a0_1 : ByteArray) (r : Int) (w : World) (h : field_Field_Check.f k a0_0 a0_1 = some r) :
    Calls Tryz.prog 89 #[.agg #[.string a0_0, .string a0_1]] w fun e w' => e = .returned (.int .i64 r) ∧ Below w.heap.size w w' := by
  have hu76 := Tryz.underlying76
  have HB := Aside0.mk (Below.refl w.heap.size w)
  have H : ((GV.Words.f a0_1).bind fun t102 => ((PA.field_ValidName.f k a0_0).bind fun t105 => (if t105 = true then ((GV.Printable.f a0_1).bind fun t106 => (if t106 ≥ 0 then (some 6) else ((GV.Join.f t102 (⟨#[32]⟩ : ByteArray)).bind fun t107 => (if t107.toList = a0_1.toList then (if (a0_1.size : Int) > 8192 then (some 5) else ((GV.someLong.f t102 (Value.func (.func 120) #[] #[])).bind fun t108 => (if t108 = true then (some 5) else (some 0)))) else (some 3))))) else (some 12)))) = some r := h
  clear h
  replace H := Option.bind_eq_some_iff.mp H
  obtain ⟨t102, A20, H⟩ := H
  replace H : ((PA.field_ValidName.f k a0_0).bind fun t105 => (if t105 = true then ((GV.Printable.f a0_1).bind fun t106 => (if t106 ≥ 0 then (some 6) else ((GV.Join.f t102 (⟨#[32]⟩ : ByteArray)).bind fun t107 => (if t107.toList = a0_1.toList then (if (a0_1.size : Int) > 8192 then (some 5) else ((GV.someLong.f t102 (Value.func (.func 120) #[] #[])).bind fun t108 => (if t108 = true then (some 5) else (some 0)))) else (some 3))))) else (some 12))) = some r := H
  have A2 := Aside0.mk A20
  clear A20
  replace H := Option.bind_eq_some_iff.mp H
  obtain ⟨t105, A30, H⟩ := H
  replace H : (if t105 = true then ((GV.Printable.f a0_1).bind fun t106 => (if t106 ≥ 0 then (some 6) else ((GV.Join.f t102 (⟨#[32]⟩ : ByteArray)).bind fun t107 => (if t107.toList = a0_1.toList then (if (a0_1.size : Int) > 8192 then (some 5) else ((GV.someLong.f t102 (Value.func (.func 120) #[] #[])).bind fun t108 => (if t108 = true then (some 5) else (some 0)))) else (some 3))))) else (some 12)) = some r := H
  have A3 := Aside0.mk A30
  clear A30
  by_cases c4 : t105 = true
  · subst c4
    have H1 : ((GV.Printable.f a0_1).bind fun t106 => (if t106 ≥ 0 then (some 6) else ((GV.Join.f t102 (⟨#[32]⟩ : ByteArray)).bind fun t107 => (if t107.toList = a0_1.toList then (if (a0_1.size : Int) > 8192 then (some 5) else ((GV.someLong.f t102 (Value.func (.func 120) #[] #[])).bind fun t108 => (if t108 = true then (some 5) else (some 0)))) else (some 3))))) = some r := by rw [if_pos rfl] at H; exact H
    clear H
    have H := H1
    clear H1
    replace H := Option.bind_eq_some_iff.mp H
    obtain ⟨t106, A50, H⟩ := H
    replace H : (if t106 ≥ 0 then (some 6) else ((GV.Join.f t102 (⟨#[32]⟩ : ByteArray)).bind fun t107 => (if t107.toList = a0_1.toList then (if (a0_1.size : Int) > 8192 then (some 5) else ((GV.someLong.f t102 (Value.func (.func 120) #[] #[])).bind fun t108 => (if t108 = true then (some 5) else (some 0)))) else (some 3)))) = some r := H
    have A5 := Aside0.mk A50
    clear A50
    by_cases c6 : t106 ≥ 0
    · rw [if_pos c6] at H
      have c6b0 : decide (0 ≤ t106) = true := decide_eq_true c6
      clear c6
      obtain rfl := Option.some.inj H
      go_enter Tryz.func89, Tryz.ntmps89
      go_wp2_with (first | ((with_reducible refine gate_dst (N := 1) rfl ?_); refine box_event ?hg (N := 1) ?hd (cs := #[.string a0_0, .string a0_1]) (t := 76) ?hr ?_; (case hd => rfl); (case hg => rfl); (case hr => first | (go_simp; done) | (go_simp; rfl)); intro gb101 hg w7 hbox hb; have n0_ := Aside0.mk (below_step (by repeat (first | (with_reducible first | exact HB.out | apply below_alloc | apply pw_below_drewN | apply below_drew1) | exact HB.out)) hb); have n1_ := Aside0.mk (hbox); have n2_ := Aside0.mk ((by rw [hg]; exact (below_size (by repeat (first | (with_reducible first | exact HB.out | apply below_alloc | apply pw_below_drewN | apply below_drew1) | exact HB.out))) : w.heap.size ≤ gb101)); have n3_ := Aside0.mk ((by rw [hg]; exact (below_size (by repeat (first | (with_reducible first | exact HB.out | apply below_alloc | apply pw_below_drewN | apply below_drew1) | exact HB.out))) : w.heap.size ≤ gb101)); clear HB; have HB := n0_; have BK101 := n1_; have GW101 := n2_; have GE101 := n3_; clear n0_ n1_ n2_ n3_; clear hb hbox hg; have hcz8_0 : w7.cell? ⟨gb101, 0, none⟩ = some (.string a0_0) := (blk_cell BK101.out 0).trans rfl; have hcz8_1 : w7.cell? ⟨gb101, 1, none⟩ = some (.string a0_1) := (blk_cell BK101.out 1).trans rfl; have hfz8_0 := blk_frozen BK101.out 0; have hfz8_1 := blk_frozen BK101.out 1) | ((with_reducible refine gate_callee (f := 90) rfl ?_); refine goesL_ (some 6) rfl rfl Tryz.func90 (by kernel_rfl) rfl #[.string a0_1] rfl (by (try simp only [List.map_toArray, List.map_cons, List.map_nil]); first | done | rfl | (simp only [List.length_drop, List.length_take]; rfl)) ?_; (with_reducible refine (GV.Words.calls a0_1 t102 _ A2.out).mono ?_); rintro e w9 ⟨v103, rfl, ho0, hb⟩; refine ⟨_, rfl, ?_⟩; have n0_ := Aside0.mk (Kd.R_lower ho0 (below_size (by repeat (first | (with_reducible first | exact HB.out | apply below_alloc | apply pw_below_drewN | apply below_drew1 | refine below_set ?_ GE101.out) | exact HB.out)))); have n1_ := Aside0.mk (blk_below (g := gb101) (o := .cells #[.string a0_0, .string a0_1] 76 (0, 0)) (by (with_reducible repeat (first | refine blk_drewN ?_ _ | refine blk_drew ?_ | refine blk_alloc ?_ _)); exact BK101.out) hb); have n2_ := Aside0.mk (below_step (by repeat (first | (with_reducible first | exact HB.out | apply below_alloc | apply pw_below_drewN | apply below_drew1 | refine below_set ?_ GE101.out) | exact HB.out)) hb); clear BK101; clear HB; have HO104 := n0_; have BK101 := n1_; have HB := n2_; clear n0_ n1_ n2_; (try clear hb); (try clear hb2); (try clear hk); (try clear hi); (try clear ho0); have hcz10_0 : w9.cell? ⟨gb101, 0, none⟩ = some (.string a0_0) := (blk_cell BK101.out 0).trans rfl; have hcz10_1 : w9.cell? ⟨gb101, 1, none⟩ = some (.string a0_1) := (blk_cell BK101.out 1).trans rfl; have hfz10_0 := blk_frozen BK101.out 0; have hfz10_1 := blk_frozen BK101.out 1) | ((with_reducible refine gate_callee (f := 116) rfl ?_); refine goesL_ (some 10) rfl rfl Tryz.func116 (by kernel_rfl) rfl #[.string a0_0] rfl (by (try simp only [List.map_toArray, List.map_cons, List.map_nil]); first | done | rfl | (simp only [List.length_drop, List.length_take]; rfl)) ?_; (with_reducible refine (PA.field_ValidName.calls k a0_0 true _ A3.out).mono ?_); rintro e w' ⟨rfl, ⟨nd, rfl⟩⟩; refine ⟨_, rfl, ?_⟩) | ((with_reducible refine gate_callee (f := 117) rfl ?_); refine goesL_ (some 15) rfl rfl Tryz.func117 (by kernel_rfl) rfl #[.string a0_1] rfl (by (try simp only [List.map_toArray, List.map_cons, List.map_nil]); first | done | rfl | (simp only [List.length_drop, List.length_take]; rfl)) ?_; (with_reducible refine (GV.Printable.calls a0_1 t106 _ A5.out).mono ?_); rintro e w' ⟨rfl, ⟨nd, rfl⟩⟩; refine ⟨_, rfl, ?_⟩))
      go_ret
      exact ⟨by first | rfl | (simp [errW_none, errW_some] <;> rfl) | (simp [*, errW_none, errW_some] <;> rfl), by repeat (first | (with_reducible first | exact HB.out | apply below_alloc | apply pw_below_drewN | apply below_drew1 | refine below_set ?_ GE101.out) | exact HB.out)⟩
    · rw [if_neg c6] at H
      have c6b0 : decide (0 ≤ t106) = false := decide_eq_false c6
      clear c6
      replace H := Option.bind_eq_some_iff.mp H
      obtain ⟨t107, A110, H⟩ := H
      replace H : (if t107.toList = a0_1.toList then (if (a0_1.size : Int) > 8192 then (some 5) else ((GV.someLong.f t102 (Value.func (.func 120) #[] #[])).bind fun t108 => (if t108 = true then (some 5) else (some 0)))) else (some 3)) = some r := H
      have A11 := Aside0.mk A110
      clear A110
      by_cases c12 : t107.toList = a0_1.toList
      · rw [if_pos c12] at H
        have c12b0 : (t107.toList == a0_1.toList) = true := beq_iff_eq.mpr c12
        have c12b1 : (t107.toList != a0_1.toList) = false := bne_eq_false_iff_eq.mpr c12
        clear c12
        by_cases c13 : (a0_1.size : Int) > 8192
        · rw [if_pos c13] at H
          have c13b0 : decide (8192 < (a0_1.size : Int)) = true := decide_eq_true c13
          have c13b1 : decide (8192 < a0_1.size) = true := decide_eq_true (by omega)
          clear c13
          obtain rfl := Option.some.inj H
          go_enter Tryz.func89, Tryz.ntmps89
          try go_wp2_with (first | ((with_reducible refine gate_dst (N := 1) rfl ?_); refine box_event ?hg (N := 1) ?hd (cs := #[.string a0_0, .string a0_1]) (t := 76) ?hr ?_; (case hd => rfl); (case hg => rfl); (case hr => first | (go_simp; done) | (go_simp; rfl)); intro gb101 hg w14 hbox hb; have n0_ := Aside0.mk (below_step (by repeat (first | (with_reducible first | exact HB.out | apply below_alloc | apply pw_below_drewN | apply below_drew1) | exact HB.out)) hb); have n1_ := Aside0.mk (hbox); have n2_ := Aside0.mk ((by rw [hg]; exact (below_size (by repeat (first | (with_reducible first | exact HB.out | apply below_alloc | apply pw_below_drewN | apply below_drew1) | exact HB.out))) : w.heap.size ≤ gb101)); have n3_ := Aside0.mk ((by rw [hg]; exact (below_size (by repeat (first | (with_reducible first | exact HB.out | apply below_alloc | apply pw_below_drewN | apply below_drew1) | exact HB.out))) : w.heap.size ≤ gb101)); clear HB; have HB := n0_; have BK101 := n1_; have GW101 := n2_; have GE101 := n3_; clear n0_ n1_ n2_ n3_; clear hb hbox hg; have hcz15_0 : w14.cell? ⟨gb101, 0, none⟩ = some (.string a0_0) := (blk_cell BK101.out 0).trans rfl; have hcz15_1 : w14.cell? ⟨gb101, 1, none⟩ = some (.string a0_1) := (blk_cell BK101.out 1).trans rfl; have hfz15_0 := blk_frozen BK101.out 0; have hfz15_1 := blk_frozen BK101.out 1) | ((with_reducible refine gate_callee (f := 90) rfl ?_); refine goesL_ (some 6) rfl rfl Tryz.func90 (by kernel_rfl) rfl #[.string a0_1] rfl (by (try simp only [List.map_toArray, List.map_cons, List.map_nil]); first | done | rfl | (simp only [List.length_drop, List.length_take]; rfl)) ?_; (with_reducible refine (GV.Words.calls a0_1 t102 _ A2.out).mono ?_); rintro e w16 ⟨v103, rfl, ho0, hb⟩; refine ⟨_, rfl, ?_⟩; have n0_ := Aside0.mk (Kd.R_lower ho0 (below_size (by repeat (first | (with_reducible first | exact HB.out | apply below_alloc | apply pw_below_drewN | apply below_drew1 | refine below_set ?_ GE101.out) | exact HB.out)))); have n1_ := Aside0.mk (blk_below (g := gb101) (o := .cells #[.string a0_0, .string a0_1] 76 (0, 0)) (by (with_reducible repeat (first | refine blk_drewN ?_ _ | refine blk_drew ?_ | refine blk_alloc ?_ _)); exact BK101.out) hb); have n2_ := Aside0.mk (below_step (by repeat (first | (with_reducible first | exact HB.out | apply below_alloc | apply pw_below_drewN | apply below_drew1 | refine below_set ?_ GE101.out) | exact HB.out)) hb); clear BK101; clear HB; have HO104 := n0_; have BK101 := n1_; have HB := n2_; clear n0_ n1_ n2_; (try clear hb); (try clear hb2); (try clear hk); (try clear hi); (try clear ho0); have hcz17_0 : w16.cell? ⟨gb101, 0, none⟩ = some (.string a0_0) := (blk_cell BK101.out 0).trans rfl; have hcz17_1 : w16.cell? ⟨gb101, 1, none⟩ = some (.string a0_1) := (blk_cell BK101.out 1).trans rfl; have hfz17_0 := blk_frozen BK101.out 0; have hfz17_1 := blk_frozen BK101.out 1) | ((with_reducible refine gate_callee (f := 116) rfl ?_); refine goesL_ (some 10) rfl rfl Tryz.func116 (by kernel_rfl) rfl #[.string a0_0] rfl (by (try simp only [List.map_toArray, List.map_cons, List.map_nil]); first | done | rfl | (simp only [List.length_drop, List.length_take]; rfl)) ?_; (with_reducible refine (PA.field_ValidName.calls k a0_0 true _ A3.out).mono ?_); rintro e w' ⟨rfl, ⟨nd, rfl⟩⟩; refine ⟨_, rfl, ?_⟩) | ((with_reducible refine gate_callee (f := 117) rfl ?_); refine goesL_ (some 15) rfl rfl Tryz.func117 (by kernel_rfl) rfl #[.string a0_1] rfl (by (try simp only [List.map_toArray, List.map_cons, List.map_nil]); first | done | rfl | (simp only [List.length_drop, List.length_take]; rfl)) ?_; (with_reducible refine (GV.Printable.calls a0_1 t106 _ A5.out).mono ?_); rintro e w' ⟨rfl, ⟨nd, rfl⟩⟩; refine ⟨_, rfl, ?_⟩))
          (try (rw [drewN_self w16]; generalize hq_ : World.drewN w16 _ = w16; have n0_ : Aside0 (Kd.R Kd.string 9 w16 w.heap.size (fun _ => True) v103 t102) := ⟨by rw [← hq_]; exact (by (with_reducible repeat (first | apply Kd.R_alloc | apply Kd.R_drewN | apply Kd.R_drew)); exact HO104.out)⟩; have n1_ : Aside0 (w16.heap[gb101]? = some (.cells #[.string a0_0, .string a0_1] 76 (0, 0))) := ⟨by rw [← hq_]; exact (by (with_reducible repeat (first | refine blk_drewN ?_ _ | refine blk_drew ?_ | refine blk_alloc ?_ _)); exact BK101.out)⟩; have n2_ : Aside0 (Below w.heap.size w w16) := ⟨by rw [← hq_]; exact (by repeat (first | (with_reducible first | exact HB.out | apply below_alloc | apply pw_below_drewN | apply below_drew1 | refine below_set ?_ GE101.out) | exact HB.out))⟩; clear HO104 BK101 HB hq_; have HO104 := n0_; have BK101 := n1_; have HB := n2_; clear n0_ n1_ n2_))
          have n0_ := Aside0.mk (Kd.R_drew HO104.out)
          have n1_ := Aside0.mk (blk_drew BK101.out)
          have n2_ := Aside0.mk (below_drew1 HB.out)
          clear HO104
          clear BK101
          clear HB
          have HO104 := n0_
          have BK101 := n1_
          have HB := n2_
          clear n0_ n1_ n2_
          obtain ⟨Ao19, co19, eo19⟩ := Kd.R_slice HO104.out
          (first | subst eo19 | (injection eo19 with f1_ f2_ f3_; have f4_ := f1_.symm; have f5_ := f3_.symm; clear f1_ f2_ f3_; subst f4_; subst f5_))
          refine start_ (n := 6) (S := fun w' => w'.cell? ⟨gb101, 0, none⟩ = some (.string a0_0) ∧ w'.cell? ⟨gb101, 1, none⟩ = some (.string a0_1)) (ds := []) #[false, false, false, false, false, false] (by kernel_rfl) rfl rfl ⟨(blk_cell BK101.out 0).trans rfl, (blk_cell BK101.out 1).trans rfl⟩ (fun hHeld => ?_)
          generalize w16.drew = w18 at HO104 BK101 HB hHeld ⊢
          refine pure_ (i := 0) (N := some 18) (v := ?_) (a' := ?_) #[true, false, false, false, false, false] rfl rfl (by kernel_rfl) (fun _ _ _ h => h) (Or.inl ⟨by rfl, ?_⟩) ?_ ?_
          rotate_left
          · intro w'
            go_simp
            with_reducible rfl
          rotate_left
          · simp only [Act.put, List.setIfInBounds_toArray, List.set_cons_zero, List.set_cons_succ, i64_w, i32_w]
            rfl
          refine pure_ (i := 2) (N := some 20) (v := ?_) (a' := ?_) #[true, false, true, false, false, false] rfl rfl (by kernel_rfl) (fun _ _ _ h => h) (Or.inl ⟨by rfl, ?_⟩) ?_ ?_
          rotate_left
          · intro w'
            go_simp
            with_reducible rfl
          rotate_left
          · simp only [Act.put, List.setIfInBounds_toArray, List.set_cons_zero, List.set_cons_succ, i64_w, i32_w]
            rfl
          refine take_ (i := 3) (N := some 21) (v := ?_) (a' := ?_) #[true, false, true, true, false, false] rfl rfl (by kernel_rfl) (fun _ _ _ h => h) (Or.inl ⟨by rfl, ?_⟩) hHeld ?_ ?_
          rotate_left
          · rintro w' ⟨s0, s1⟩
            go_simp
            with_reducible rfl
          rotate_left
          · simp only [Act.put, List.setIfInBounds_toArray, List.set_cons_zero, List.set_cons_succ, i64_w, i32_w]
            rfl
          refine one_ (i := 1) (N := some 19) #[true, true, true, true, false, false] rfl rfl (by kernel_rfl) (by decide) (fun K hK => ?_)
          refine goes_ Tryz.func118 (by kernel_rfl) rfl #[.slice Ao19 t102.length co19, .string (⟨#[32]⟩ : ByteArray)] (by rfl) rfl rfl (by (try simp only [List.map_toArray, List.map_cons, List.map_nil]); first | done | rfl | (simp only [List.length_drop, List.length_take]; rfl)) ?_
          with_reducible refine (GV.Join.calls _ _ t102 (⟨#[32]⟩ : ByteArray) t107 _ ?side1 ?side2 A11.out).mono ?_
          (case side1 => repeat (first | exact (Kd.R_reads' HO104.out).2.2 | (with_reducible refine Kd.C_alloc ?_ _) | (with_reducible refine Kd.C_drewN ?_ _) | (with_reducible refine Kd.C_drew ?_)))
          (case side2 => exact (Kd.R_reads' HO104.out).2.1)
          rintro e w20 ⟨rfl, hb⟩
          refine ⟨_, rfl, ?_⟩
          have n0_ := Aside0.mk (Kd.R_below (by (with_reducible repeat (first | apply Kd.R_alloc | apply Kd.R_drewN | apply Kd.R_drew)); exact HO104.out) hb)
          have n1_ := Aside0.mk (blk_below (g := gb101) (o := .cells #[.string a0_0, .string a0_1] 76 (0, 0)) (by (with_reducible repeat (first | refine blk_drewN ?_ _ | refine blk_drew ?_ | refine blk_alloc ?_ _)); exact BK101.out) hb)
          have n2_ := Aside0.mk (below_step (by repeat (first | (with_reducible first | exact HB.out | apply below_alloc | apply pw_below_drewN | apply below_drew1 | refine below_set ?_ GE101.out) | exact HB.out)) hb)
          clear HO104
          clear BK101
          clear HB
          have HO104 := n0_
          have BK101 := n1_
          have HB := n2_
          clear n0_ n1_ n2_
          (try clear hb)
          (try clear hb2)
          (try clear hk)
          (try clear hi)
          refine hK.out _ _ ⟨(blk_cell BK101.out 0).trans rfl, (blk_cell BK101.out 1).trans rfl⟩ (fun hHeld => ?_)
          clear hK K
          refine norm_ (a' := ?_) ?_ ?_
          rotate_left
          · show Act.put _ (some 19) _ = _
            simp only [Act.put, List.setIfInBounds_toArray, List.set_cons_zero, List.set_cons_succ, i64_w, i32_w]
            rfl
          refine pure_ (i := 4) (N := some 22) (v := ?_) (a' := ?_) #[true, true, true, true, true, false] rfl rfl (by kernel_rfl) (fun _ _ _ h => h) (Or.inl ⟨by rfl, ?_⟩) ?_ ?_
          rotate_left
          · intro w'
            go_simp
            with_reducible rfl
          rotate_left
          · simp only [Act.put, List.setIfInBounds_toArray, List.set_cons_zero, List.set_cons_succ, i64_w, i32_w]
            rfl
          refine pure_ (i := 5) (N := some 17) (v := ?_) (a' := ?_) #[true, true, true, true, true, true] rfl rfl (by kernel_rfl) (fun _ _ _ h => h) (Or.inl ⟨by rfl, ?_⟩) ?_ ?_
          rotate_left
          · intro w'
            go_simp
            with_reducible rfl
          rotate_left
          · simp only [Act.put, List.setIfInBounds_toArray, List.set_cons_zero, List.set_cons_succ, i64_w, i32_w]
            rfl
          refine done_ (by kernel_rfl) ?_
          have hcz21_0 : w20.cell? ⟨gb101, 0, none⟩ = some (.string a0_0) := (blk_cell BK101.out 0).trans rfl
          have hcz21_1 : w20.cell? ⟨gb101, 1, none⟩ = some (.string a0_1) := (blk_cell BK101.out 1).trans rfl
          have hfz21_0 := blk_frozen BK101.out 0
          have hfz21_1 := blk_frozen BK101.out 1
          try go_wp2
          go_ret
          exact ⟨by first | rfl | (simp [errW_none, errW_some] <;> rfl) | (simp [*, errW_none, errW_some] <;> rfl), by repeat (first | (with_reducible first | exact HB.out | apply below_alloc | apply pw_below_drewN | apply below_drew1 | refine below_set ?_ GE101.out) | exact HB.out)⟩
        · rw [if_neg c13] at H
          have c13b0 : decide (8192 < (a0_1.size : Int)) = false := decide_eq_false c13
          have c13b1 : decide (8192 < a0_1.size) = false := decide_eq_false (by omega)
          clear c13
          replace H := Option.bind_eq_some_iff.mp H
          obtain ⟨t108, A220, H⟩ := H
          replace H : (if t108 = true then (some 5) else (some 0)) = some r := H
          have A22 := Aside0.mk A220
          clear A220
          by_cases c23 : t108 = true
          · subst c23
            have H1 : (some 5) = some r := by rw [if_pos rfl] at H; exact H
            clear H
            have H := H1
            clear H1
            obtain rfl := Option.some.inj H
            go_enter Tryz.func89, Tryz.ntmps89
            try go_wp2_with (first | ((with_reducible refine gate_dst (N := 1) rfl ?_); refine box_event ?hg (N := 1) ?hd (cs := #[.string a0_0, .string a0_1]) (t := 76) ?hr ?_; (case hd => rfl); (case hg => rfl); (case hr => first | (go_simp; done) | (go_simp; rfl)); intro gb101 hg w24 hbox hb; have n0_ := Aside0.mk (below_step (by repeat (first | (with_reducible first | exact HB.out | apply below_alloc | apply pw_below_drewN | apply below_drew1) | exact HB.out)) hb); have n1_ := Aside0.mk (hbox); have n2_ := Aside0.mk ((by rw [hg]; exact (below_size (by repeat (first | (with_reducible first | exact HB.out | apply below_alloc | apply pw_below_drewN | apply below_drew1) | exact HB.out))) : w.heap.size ≤ gb101)); have n3_ := Aside0.mk ((by rw [hg]; exact (below_size (by repeat (first | (with_reducible first | exact HB.out | apply below_alloc | apply pw_below_drewN | apply below_drew1) | exact HB.out))) : w.heap.size ≤ gb101)); clear HB; have HB := n0_; have BK101 := n1_; have GW101 := n2_; have GE101 := n3_; clear n0_ n1_ n2_ n3_; clear hb hbox hg; have hcz25_0 : w24.cell? ⟨gb101, 0, none⟩ = some (.string a0_0) := (blk_cell BK101.out 0).trans rfl; have hcz25_1 : w24.cell? ⟨gb101, 1, none⟩ = some (.string a0_1) := (blk_cell BK101.out 1).trans rfl; have hfz25_0 := blk_frozen BK101.out 0; have hfz25_1 := blk_frozen BK101.out 1) | ((with_reducible refine gate_callee (f := 90) rfl ?_); refine goesL_ (some 6) rfl rfl Tryz.func90 (by kernel_rfl) rfl #[.string a0_1] rfl (by (try simp only [List.map_toArray, List.map_cons, List.map_nil]); first | done | rfl | (simp only [List.length_drop, List.length_take]; rfl)) ?_; (with_reducible refine (GV.Words.calls a0_1 t102 _ A2.out).mono ?_); rintro e w26 ⟨v103, rfl, ho0, hb⟩; refine ⟨_, rfl, ?_⟩; have n0_ := Aside0.mk (Kd.R_lower ho0 (below_size (by repeat (first | (with_reducible first | exact HB.out | apply below_alloc | apply pw_below_drewN | apply below_drew1 | refine below_set ?_ GE101.out) | exact HB.out)))); have n1_ := Aside0.mk (blk_below (g := gb101) (o := .cells #[.string a0_0, .string a0_1] 76 (0, 0)) (by (with_reducible repeat (first | refine blk_drewN ?_ _ | refine blk_drew ?_ | refine blk_alloc ?_ _)); exact BK101.out) hb); have n2_ := Aside0.mk (below_step (by repeat (first | (with_reducible first | exact HB.out | apply below_alloc | apply pw_below_drewN | apply below_drew1 | refine below_set ?_ GE101.out) | exact HB.out)) hb); clear BK101; clear HB; have HO104 := n0_; have BK101 := n1_; have HB := n2_; clear n0_ n1_ n2_; (try clear hb); (try clear hb2); (try clear hk); (try clear hi); (try clear ho0); have hcz27_0 : w26.cell? ⟨gb101, 0, none⟩ = some (.string a0_0) := (blk_cell BK101.out 0).trans rfl; have hcz27_1 : w26.cell? ⟨gb101, 1, none⟩ = some (.string a0_1) := (blk_cell BK101.out 1).trans rfl; have hfz27_0 := blk_frozen BK101.out 0; have hfz27_1 := blk_frozen BK101.out 1) | ((with_reducible refine gate_callee (f := 116) rfl ?_); refine goesL_ (some 10) rfl rfl Tryz.func116 (by kernel_rfl) rfl #[.string a0_0] rfl (by (try simp only [List.map_toArray, List.map_cons, List.map_nil]); first | done | rfl | (simp only [List.length_drop, List.length_take]; rfl)) ?_; (with_reducible refine (PA.field_ValidName.calls k a0_0 true _ A3.out).mono ?_); rintro e w' ⟨rfl, ⟨nd, rfl⟩⟩; refine ⟨_, rfl, ?_⟩) | ((with_reducible refine gate_callee (f := 117) rfl ?_); refine goesL_ (some 15) rfl rfl Tryz.func117 (by kernel_rfl) rfl #[.string a0_1] rfl (by (try simp only [List.map_toArray, List.map_cons, List.map_nil]); first | done | rfl | (simp only [List.length_drop, List.length_take]; rfl)) ?_; (with_reducible refine (GV.Printable.calls a0_1 t106 _ A5.out).mono ?_); rintro e w' ⟨rfl, ⟨nd, rfl⟩⟩; refine ⟨_, rfl, ?_⟩))
            (try (rw [drewN_self w26]; generalize hq_ : World.drewN w26 _ = w26; have n0_ : Aside0 (Kd.R Kd.string 9 w26 w.heap.size (fun _ => True) v103 t102) := ⟨by rw [← hq_]; exact (by (with_reducible repeat (first | apply Kd.R_alloc | apply Kd.R_drewN | apply Kd.R_drew)); exact HO104.out)⟩; have n1_ : Aside0 (w26.heap[gb101]? = some (.cells #[.string a0_0, .string a0_1] 76 (0, 0))) := ⟨by rw [← hq_]; exact (by (with_reducible repeat (first | refine blk_drewN ?_ _ | refine blk_drew ?_ | refine blk_alloc ?_ _)); exact BK101.out)⟩; have n2_ : Aside0 (Below w.heap.size w w26) := ⟨by rw [← hq_]; exact (by repeat (first | (with_reducible first | exact HB.out | apply below_alloc | apply pw_below_drewN | apply below_drew1 | refine below_set ?_ GE101.out) | exact HB.out))⟩; clear HO104 BK101 HB hq_; have HO104 := n0_; have BK101 := n1_; have HB := n2_; clear n0_ n1_ n2_))
            have n0_ := Aside0.mk (Kd.R_drew HO104.out)
            have n1_ := Aside0.mk (blk_drew BK101.out)
            have n2_ := Aside0.mk (below_drew1 HB.out)
            clear HO104
            clear BK101
            clear HB
            have HO104 := n0_
            have BK101 := n1_
            have HB := n2_
            clear n0_ n1_ n2_
            obtain ⟨Ao29, co29, eo29⟩ := Kd.R_slice HO104.out
            (first | subst eo29 | (injection eo29 with f1_ f2_ f3_; have f4_ := f1_.symm; have f5_ := f3_.symm; clear f1_ f2_ f3_; subst f4_; subst f5_))
            refine start_ (n := 6) (S := fun w' => w'.cell? ⟨gb101, 0, none⟩ = some (.string a0_0) ∧ w'.cell? ⟨gb101, 1, none⟩ = some (.string a0_1)) (ds := []) #[false, false, false, false, false, false] (by kernel_rfl) rfl rfl ⟨(blk_cell BK101.out 0).trans rfl, (blk_cell BK101.out 1).trans rfl⟩ (fun hHeld => ?_)
            generalize w26.drew = w28 at HO104 BK101 HB hHeld ⊢
            refine pure_ (i := 0) (N := some 18) (v := ?_) (a' := ?_) #[true, false, false, false, false, false] rfl rfl (by kernel_rfl) (fun _ _ _ h => h) (Or.inl ⟨by rfl, ?_⟩) ?_ ?_
            rotate_left
            · intro w'
              go_simp
              with_reducible rfl
            rotate_left
            · simp only [Act.put, List.setIfInBounds_toArray, List.set_cons_zero, List.set_cons_succ, i64_w, i32_w]
              rfl
            refine pure_ (i := 2) (N := some 20) (v := ?_) (a' := ?_) #[true, false, true, false, false, false] rfl rfl (by kernel_rfl) (fun _ _ _ h => h) (Or.inl ⟨by rfl, ?_⟩) ?_ ?_
            rotate_left
            · intro w'
              go_simp
              with_reducible rfl
            rotate_left
            · simp only [Act.put, List.setIfInBounds_toArray, List.set_cons_zero, List.set_cons_succ, i64_w, i32_w]
              rfl
            refine take_ (i := 3) (N := some 21) (v := ?_) (a' := ?_) #[true, false, true, true, false, false] rfl rfl (by kernel_rfl) (fun _ _ _ h => h) (Or.inl ⟨by rfl, ?_⟩) hHeld ?_ ?_
            rotate_left
            · rintro w' ⟨s0, s1⟩
              go_simp
              with_reducible rfl
            rotate_left
            · simp only [Act.put, List.setIfInBounds_toArray, List.set_cons_zero, List.set_cons_succ, i64_w, i32_w]
              rfl
            refine one_ (i := 1) (N := some 19) #[true, true, true, true, false, false] rfl rfl (by kernel_rfl) (by decide) (fun K hK => ?_)
            refine goes_ Tryz.func118 (by kernel_rfl) rfl #[.slice Ao29 t102.length co29, .string (⟨#[32]⟩ : ByteArray)] (by rfl) rfl rfl (by (try simp only [List.map_toArray, List.map_cons, List.map_nil]); first | done | rfl | (simp only [List.length_drop, List.length_take]; rfl)) ?_
            with_reducible refine (GV.Join.calls _ _ t102 (⟨#[32]⟩ : ByteArray) t107 _ ?side1 ?side2 A11.out).mono ?_
            (case side1 => repeat (first | exact (Kd.R_reads' HO104.out).2.2 | (with_reducible refine Kd.C_alloc ?_ _) | (with_reducible refine Kd.C_drewN ?_ _) | (with_reducible refine Kd.C_drew ?_)))
            (case side2 => exact (Kd.R_reads' HO104.out).2.1)
            rintro e w30 ⟨rfl, hb⟩
            refine ⟨_, rfl, ?_⟩
            have n0_ := Aside0.mk (Kd.R_below (by (with_reducible repeat (first | apply Kd.R_alloc | apply Kd.R_drewN | apply Kd.R_drew)); exact HO104.out) hb)
            have n1_ := Aside0.mk (blk_below (g := gb101) (o := .cells #[.string a0_0, .string a0_1] 76 (0, 0)) (by (with_reducible repeat (first | refine blk_drewN ?_ _ | refine blk_drew ?_ | refine blk_alloc ?_ _)); exact BK101.out) hb)
            have n2_ := Aside0.mk (below_step (by repeat (first | (with_reducible first | exact HB.out | apply below_alloc | apply pw_below_drewN | apply below_drew1 | refine below_set ?_ GE101.out) | exact HB.out)) hb)
            clear HO104
            clear BK101
            clear HB
            have HO104 := n0_
            have BK101 := n1_
            have HB := n2_
            clear n0_ n1_ n2_
            (try clear hb)
            (try clear hb2)
            (try clear hk)
            (try clear hi)
            refine hK.out _ _ ⟨(blk_cell BK101.out 0).trans rfl, (blk_cell BK101.out 1).trans rfl⟩ (fun hHeld => ?_)
            clear hK K
            refine norm_ (a' := ?_) ?_ ?_
            rotate_left
            · show Act.put _ (some 19) _ = _
              simp only [Act.put, List.setIfInBounds_toArray, List.set_cons_zero, List.set_cons_succ, i64_w, i32_w]
              rfl
            refine pure_ (i := 4) (N := some 22) (v := ?_) (a' := ?_) #[true, true, true, true, true, false] rfl rfl (by kernel_rfl) (fun _ _ _ h => h) (Or.inl ⟨by rfl, ?_⟩) ?_ ?_
            rotate_left
            · intro w'
              go_simp
              with_reducible rfl
            rotate_left
            · simp only [Act.put, List.setIfInBounds_toArray, List.set_cons_zero, List.set_cons_succ, i64_w, i32_w]
              rfl
            refine pure_ (i := 5) (N := some 17) (v := ?_) (a' := ?_) #[true, true, true, true, true, true] rfl rfl (by kernel_rfl) (fun _ _ _ h => h) (Or.inl ⟨by rfl, ?_⟩) ?_ ?_
            rotate_left
            · intro w'
              go_simp
              with_reducible rfl
            rotate_left
            · simp only [Act.put, List.setIfInBounds_toArray, List.set_cons_zero, List.set_cons_succ, i64_w, i32_w]
              rfl
            refine done_ (by kernel_rfl) ?_
            have hcz31_0 : w30.cell? ⟨gb101, 0, none⟩ = some (.string a0_0) := (blk_cell BK101.out 0).trans rfl
            have hcz31_1 : w30.cell? ⟨gb101, 1, none⟩ = some (.string a0_1) := (blk_cell BK101.out 1).trans rfl
            have hfz31_0 := blk_frozen BK101.out 0
            have hfz31_1 := blk_frozen BK101.out 1
            try go_wp2_with (first | (go_at_call 119; (with_reducible refine (GV.someLong.calls _ _ t102 (Value.func (.func 120) #[] #[]) true _ ?side1 ?side2 A22.out).mono ?_); (case side1 => repeat (first | exact (Kd.R_reads' HO104.out).2.2 | (with_reducible refine Kd.C_alloc ?_ _) | (with_reducible refine Kd.C_drewN ?_ _) | (with_reducible refine Kd.C_drew ?_))); (case side2 => exact (Kd.R_reads' HO104.out).2.1); rintro e w' ⟨rfl, ⟨nd, rfl⟩⟩))
            go_ret
            exact ⟨by first | rfl | (simp [errW_none, errW_some] <;> rfl) | (simp [*, errW_none, errW_some] <;> rfl), by repeat (first | (with_reducible first | exact HB.out | apply below_alloc | apply pw_below_drewN | apply below_drew1 | refine below_set ?_ GE101.out) | exact HB.out)⟩
          · replace c23 := Bool.eq_false_iff.mpr c23
            subst c23
            have H1 : (some 0) = some r := by rw [if_neg (show ¬ (false = true) by decide)] at H; exact H
            clear H
            have H := H1
            clear H1
            obtain rfl := Option.some.inj H
            go_enter Tryz.func89, Tryz.ntmps89
            try go_wp2_with (first | ((with_reducible refine gate_dst (N := 1) rfl ?_); refine box_event ?hg (N := 1) ?hd (cs := #[.string a0_0, .string a0_1]) (t := 76) ?hr ?_; (case hd => rfl); (case hg => rfl); (case hr => first | (go_simp; done) | (go_simp; rfl)); intro gb101 hg w32 hbox hb; have n0_ := Aside0.mk (below_step (by repeat (first | (with_reducible first | exact HB.out | apply below_alloc | apply pw_below_drewN | apply below_drew1) | exact HB.out)) hb); have n1_ := Aside0.mk (hbox); have n2_ := Aside0.mk ((by rw [hg]; exact (below_size (by repeat (first | (with_reducible first | exact HB.out | apply below_alloc | apply pw_below_drewN | apply below_drew1) | exact HB.out))) : w.heap.size ≤ gb101)); have n3_ := Aside0.mk ((by rw [hg]; exact (below_size (by repeat (first | (with_reducible first | exact HB.out | apply below_alloc | apply pw_below_drewN | apply below_drew1) | exact HB.out))) : w.heap.size ≤ gb101)); clear HB; have HB := n0_; have BK101 := n1_; have GW101 := n2_; have GE101 := n3_; clear n0_ n1_ n2_ n3_; clear hb hbox hg; have hcz33_0 : w32.cell? ⟨gb101, 0, none⟩ = some (.string a0_0) := (blk_cell BK101.out 0).trans rfl; have hcz33_1 : w32.cell? ⟨gb101, 1, none⟩ = some (.string a0_1) := (blk_cell BK101.out 1).trans rfl; have hfz33_0 := blk_frozen BK101.out 0; have hfz33_1 := blk_frozen BK101.out 1) | ((with_reducible refine gate_callee (f := 90) rfl ?_); refine goesL_ (some 6) rfl rfl Tryz.func90 (by kernel_rfl) rfl #[.string a0_1] rfl (by (try simp only [List.map_toArray, List.map_cons, List.map_nil]); first | done | rfl | (simp only [List.length_drop, List.length_take]; rfl)) ?_; (with_reducible refine (GV.Words.calls a0_1 t102 _ A2.out).mono ?_); rintro e w34 ⟨v103, rfl, ho0, hb⟩; refine ⟨_, rfl, ?_⟩; have n0_ := Aside0.mk (Kd.R_lower ho0 (below_size (by repeat (first | (with_reducible first | exact HB.out | apply below_alloc | apply pw_below_drewN | apply below_drew1 | refine below_set ?_ GE101.out) | exact HB.out)))); have n1_ := Aside0.mk (blk_below (g := gb101) (o := .cells #[.string a0_0, .string a0_1] 76 (0, 0)) (by (with_reducible repeat (first | refine blk_drewN ?_ _ | refine blk_drew ?_ | refine blk_alloc ?_ _)); exact BK101.out) hb); have n2_ := Aside0.mk (below_step (by repeat (first | (with_reducible first | exact HB.out | apply below_alloc | apply pw_below_drewN | apply below_drew1 | refine below_set ?_ GE101.out) | exact HB.out)) hb); clear BK101; clear HB; have HO104 := n0_; have BK101 := n1_; have HB := n2_; clear n0_ n1_ n2_; (try clear hb); (try clear hb2); (try clear hk); (try clear hi); (try clear ho0); have hcz35_0 : w34.cell? ⟨gb101, 0, none⟩ = some (.string a0_0) := (blk_cell BK101.out 0).trans rfl; have hcz35_1 : w34.cell? ⟨gb101, 1, none⟩ = some (.string a0_1) := (blk_cell BK101.out 1).trans rfl; have hfz35_0 := blk_frozen BK101.out 0; have hfz35_1 := blk_frozen BK101.out 1) | ((with_reducible refine gate_callee (f := 116) rfl ?_); refine goesL_ (some 10) rfl rfl Tryz.func116 (by kernel_rfl) rfl #[.string a0_0] rfl (by (try simp only [List.map_toArray, List.map_cons, List.map_nil]); first | done | rfl | (simp only [List.length_drop, List.length_take]; rfl)) ?_; (with_reducible refine (PA.field_ValidName.calls k a0_0 true _ A3.out).mono ?_); rintro e w' ⟨rfl, ⟨nd, rfl⟩⟩; refine ⟨_, rfl, ?_⟩) | ((with_reducible refine gate_callee (f := 117) rfl ?_); refine goesL_ (some 15) rfl rfl Tryz.func117 (by kernel_rfl) rfl #[.string a0_1] rfl (by (try simp only [List.map_toArray, List.map_cons, List.map_nil]); first | done | rfl | (simp only [List.length_drop, List.length_take]; rfl)) ?_; (with_reducible refine (GV.Printable.calls a0_1 t106 _ A5.out).mono ?_); rintro e w' ⟨rfl, ⟨nd, rfl⟩⟩; refine ⟨_, rfl, ?_⟩))
            (try (rw [drewN_self w34]; generalize hq_ : World.drewN w34 _ = w34; have n0_ : Aside0 (Kd.R Kd.string 9 w34 w.heap.size (fun _ => True) v103 t102) := ⟨by rw [← hq_]; exact (by (with_reducible repeat (first | apply Kd.R_alloc | apply Kd.R_drewN | apply Kd.R_drew)); exact HO104.out)⟩; have n1_ : Aside0 (w34.heap[gb101]? = some (.cells #[.string a0_0, .string a0_1] 76 (0, 0))) := ⟨by rw [← hq_]; exact (by (with_reducible repeat (first | refine blk_drewN ?_ _ | refine blk_drew ?_ | refine blk_alloc ?_ _)); exact BK101.out)⟩; have n2_ : Aside0 (Below w.heap.size w w34) := ⟨by rw [← hq_]; exact (by repeat (first | (with_reducible first | exact HB.out | apply below_alloc | apply pw_below_drewN | apply below_drew1 | refine below_set ?_ GE101.out) | exact HB.out))⟩; clear HO104 BK101 HB hq_; have HO104 := n0_; have BK101 := n1_; have HB := n2_; clear n0_ n1_ n2_))
            have n0_ := Aside0.mk (Kd.R_drew HO104.out)
            have n1_ := Aside0.mk (blk_drew BK101.out)
            have n2_ := Aside0.mk (below_drew1 HB.out)
            clear HO104
            clear BK101
            clear HB
            have HO104 := n0_
            have BK101 := n1_
            have HB := n2_
            clear n0_ n1_ n2_
            obtain ⟨Ao37, co37, eo37⟩ := Kd.R_slice HO104.out
            (first | subst eo37 | (injection eo37 with f1_ f2_ f3_; have f4_ := f1_.symm; have f5_ := f3_.symm; clear f1_ f2_ f3_; subst f4_; subst f5_))
            refine start_ (n := 6) (S := fun w' => w'.cell? ⟨gb101, 0, none⟩ = some (.string a0_0) ∧ w'.cell? ⟨gb101, 1, none⟩ = some (.string a0_1)) (ds := []) #[false, false, false, false, false, false] (by kernel_rfl) rfl rfl ⟨(blk_cell BK101.out 0).trans rfl, (blk_cell BK101.out 1).trans rfl⟩ (fun hHeld => ?_)
            generalize w34.drew = w36 at HO104 BK101 HB hHeld ⊢
            refine pure_ (i := 0) (N := some 18) (v := ?_) (a' := ?_) #[true, false, false, false, false, false] rfl rfl (by kernel_rfl) (fun _ _ _ h => h) (Or.inl ⟨by rfl, ?_⟩) ?_ ?_
            rotate_left
            · intro w'
              go_simp
              with_reducible rfl
            rotate_left
            · simp only [Act.put, List.setIfInBounds_toArray, List.set_cons_zero, List.set_cons_succ, i64_w, i32_w]
              rfl
            refine pure_ (i := 2) (N := some 20) (v := ?_) (a' := ?_) #[true, false, true, false, false, false] rfl rfl (by kernel_rfl) (fun _ _ _ h => h) (Or.inl ⟨by rfl, ?_⟩) ?_ ?_
            rotate_left
            · intro w'
              go_simp
              with_reducible rfl
            rotate_left
            · simp only [Act.put, List.setIfInBounds_toArray, List.set_cons_zero, List.set_cons_succ, i64_w, i32_w]
              rfl
            refine take_ (i := 3) (N := some 21) (v := ?_) (a' := ?_) #[true, false, true, true, false, false] rfl rfl (by kernel_rfl) (fun _ _ _ h => h) (Or.inl ⟨by rfl, ?_⟩) hHeld ?_ ?_
            rotate_left
            · rintro w' ⟨s0, s1⟩
              go_simp
              with_reducible rfl
            rotate_left
            · simp only [Act.put, List.setIfInBounds_toArray, List.set_cons_zero, List.set_cons_succ, i64_w, i32_w]
              rfl
            refine one_ (i := 1) (N := some 19) #[true, true, true, true, false, false] rfl rfl (by kernel_rfl) (by decide) (fun K hK => ?_)
            refine goes_ Tryz.func118 (by kernel_rfl) rfl #[.slice Ao37 t102.length co37, .string (⟨#[32]⟩ : ByteArray)] (by rfl) rfl rfl (by (try simp only [List.map_toArray, List.map_cons, List.map_nil]); first | done | rfl | (simp only [List.length_drop, List.length_take]; rfl)) ?_
            with_reducible refine (GV.Join.calls _ _ t102 (⟨#[32]⟩ : ByteArray) t107 _ ?side1 ?side2 A11.out).mono ?_
            (case side1 => repeat (first | exact (Kd.R_reads' HO104.out).2.2 | (with_reducible refine Kd.C_alloc ?_ _) | (with_reducible refine Kd.C_drewN ?_ _) | (with_reducible refine Kd.C_drew ?_)))
            (case side2 => exact (Kd.R_reads' HO104.out).2.1)
            rintro e w38 ⟨rfl, hb⟩
            refine ⟨_, rfl, ?_⟩
            have n0_ := Aside0.mk (Kd.R_below (by (with_reducible repeat (first | apply Kd.R_alloc | apply Kd.R_drewN | apply Kd.R_drew)); exact HO104.out) hb)
            have n1_ := Aside0.mk (blk_below (g := gb101) (o := .cells #[.string a0_0, .string a0_1] 76 (0, 0)) (by (with_reducible repeat (first | refine blk_drewN ?_ _ | refine blk_drew ?_ | refine blk_alloc ?_ _)); exact BK101.out) hb)
            have n2_ := Aside0.mk (below_step (by repeat (first | (with_reducible first | exact HB.out | apply below_alloc | apply pw_below_drewN | apply below_drew1 | refine below_set ?_ GE101.out) | exact HB.out)) hb)
            clear HO104
            clear BK101
            clear HB
            have HO104 := n0_
            have BK101 := n1_
            have HB := n2_
            clear n0_ n1_ n2_
            (try clear hb)
            (try clear hb2)
            (try clear hk)
            (try clear hi)
            refine hK.out _ _ ⟨(blk_cell BK101.out 0).trans rfl, (blk_cell BK101.out 1).trans rfl⟩ (fun hHeld => ?_)
            clear hK K
            refine norm_ (a' := ?_) ?_ ?_
            rotate_left
            · show Act.put _ (some 19) _ = _
              simp only [Act.put, List.setIfInBounds_toArray, List.set_cons_zero, List.set_cons_succ, i64_w, i32_w]
              rfl
            refine pure_ (i := 4) (N := some 22) (v := ?_) (a' := ?_) #[true, true, true, true, true, false] rfl rfl (by kernel_rfl) (fun _ _ _ h => h) (Or.inl ⟨by rfl, ?_⟩) ?_ ?_
            rotate_left
            · intro w'
              go_simp
              with_reducible rfl
            rotate_left
            · simp only [Act.put, List.setIfInBounds_toArray, List.set_cons_zero, List.set_cons_succ, i64_w, i32_w]
              rfl
            refine pure_ (i := 5) (N := some 17) (v := ?_) (a' := ?_) #[true, true, true, true, true, true] rfl rfl (by kernel_rfl) (fun _ _ _ h => h) (Or.inl ⟨by rfl, ?_⟩) ?_ ?_
            rotate_left
            · intro w'
              go_simp
              with_reducible rfl
            rotate_left
            · simp only [Act.put, List.setIfInBounds_toArray, List.set_cons_zero, List.set_cons_succ, i64_w, i32_w]
              rfl
            refine done_ (by kernel_rfl) ?_
            have hcz39_0 : w38.cell? ⟨gb101, 0, none⟩ = some (.string a0_0) := (blk_cell BK101.out 0).trans rfl
            have hcz39_1 : w38.cell? ⟨gb101, 1, none⟩ = some (.string a0_1) := (blk_cell BK101.out 1).trans rfl
            have hfz39_0 := blk_frozen BK101.out 0
            have hfz39_1 := blk_frozen BK101.out 1
            try go_wp2_with (first | (go_at_call 119; (with_reducible refine (GV.someLong.calls _ _ t102 (Value.func (.func 120) #[] #[]) false _ ?side1 ?side2 A22.out).mono ?_); (case side1 => repeat (first | exact (Kd.R_reads' HO104.out).2.2 | (with_reducible refine Kd.C_alloc ?_ _) | (with_reducible refine Kd.C_drewN ?_ _) | (with_reducible refine Kd.C_drew ?_))); (case side2 => exact (Kd.R_reads' HO104.out).2.1); rintro e w' ⟨rfl, ⟨nd, rfl⟩⟩))
            go_ret
            exact ⟨by first | rfl | (simp [errW_none, errW_some] <;> rfl) | (simp [*, errW_none, errW_some] <;> rfl), by repeat (first | (with_reducible first | exact HB.out | apply below_alloc | apply pw_below_drewN | apply below_drew1 | refine below_set ?_ GE101.out) | exact HB.out)⟩
      · rw [if_neg c12] at H
        have c12b0 : (t107.toList == a0_1.toList) = false := beq_eq_false_iff_ne.mpr c12
        have c12b1 : (t107.toList != a0_1.toList) = true := bne_iff_ne.mpr c12
        obtain rfl := Option.some.inj H
        go_enter Tryz.func89, Tryz.ntmps89
        try go_wp2_with (first | ((with_reducible refine gate_dst (N := 1) rfl ?_); refine box_event ?hg (N := 1) ?hd (cs := #[.string a0_0, .string a0_1]) (t := 76) ?hr ?_; (case hd => rfl); (case hg => rfl); (case hr => first | (go_simp; done) | (go_simp; rfl)); intro gb101 hg w40 hbox hb; have n0_ := Aside0.mk (below_step (by repeat (first | (with_reducible first | exact HB.out | apply below_alloc | apply pw_below_drewN | apply below_drew1) | exact HB.out)) hb); have n1_ := Aside0.mk (hbox); have n2_ := Aside0.mk ((by rw [hg]; exact (below_size (by repeat (first | (with_reducible first | exact HB.out | apply below_alloc | apply pw_below_drewN | apply below_drew1) | exact HB.out))) : w.heap.size ≤ gb101)); have n3_ := Aside0.mk ((by rw [hg]; exact (below_size (by repeat (first | (with_reducible first | exact HB.out | apply below_alloc | apply pw_below_drewN | apply below_drew1) | exact HB.out))) : w.heap.size ≤ gb101)); clear HB; have HB := n0_; have BK101 := n1_; have GW101 := n2_; have GE101 := n3_; clear n0_ n1_ n2_ n3_; clear hb hbox hg; have hcz41_0 : w40.cell? ⟨gb101, 0, none⟩ = some (.string a0_0) := (blk_cell BK101.out 0).trans rfl; have hcz41_1 : w40.cell? ⟨gb101, 1, none⟩ = some (.string a0_1) := (blk_cell BK101.out 1).trans rfl; have hfz41_0 := blk_frozen BK101.out 0; have hfz41_1 := blk_frozen BK101.out 1) | ((with_reducible refine gate_callee (f := 90) rfl ?_); refine goesL_ (some 6) rfl rfl Tryz.func90 (by kernel_rfl) rfl #[.string a0_1] rfl (by (try simp only [List.map_toArray, List.map_cons, List.map_nil]); first | done | rfl | (simp only [List.length_drop, List.length_take]; rfl)) ?_; (with_reducible refine (GV.Words.calls a0_1 t102 _ A2.out).mono ?_); rintro e w42 ⟨v103, rfl, ho0, hb⟩; refine ⟨_, rfl, ?_⟩; have n0_ := Aside0.mk (Kd.R_lower ho0 (below_size (by repeat (first | (with_reducible first | exact HB.out | apply below_alloc | apply pw_below_drewN | apply below_drew1 | refine below_set ?_ GE101.out) | exact HB.out)))); have n1_ := Aside0.mk (blk_below (g := gb101) (o := .cells #[.string a0_0, .string a0_1] 76 (0, 0)) (by (with_reducible repeat (first | refine blk_drewN ?_ _ | refine blk_drew ?_ | refine blk_alloc ?_ _)); exact BK101.out) hb); have n2_ := Aside0.mk (below_step (by repeat (first | (with_reducible first | exact HB.out | apply below_alloc | apply pw_below_drewN | apply below_drew1 | refine below_set ?_ GE101.out) | exact HB.out)) hb); clear BK101; clear HB; have HO104 := n0_; have BK101 := n1_; have HB := n2_; clear n0_ n1_ n2_; (try clear hb); (try clear hb2); (try clear hk); (try clear hi); (try clear ho0); have hcz43_0 : w42.cell? ⟨gb101, 0, none⟩ = some (.string a0_0) := (blk_cell BK101.out 0).trans rfl; have hcz43_1 : w42.cell? ⟨gb101, 1, none⟩ = some (.string a0_1) := (blk_cell BK101.out 1).trans rfl; have hfz43_0 := blk_frozen BK101.out 0; have hfz43_1 := blk_frozen BK101.out 1) | ((with_reducible refine gate_callee (f := 116) rfl ?_); refine goesL_ (some 10) rfl rfl Tryz.func116 (by kernel_rfl) rfl #[.string a0_0] rfl (by (try simp only [List.map_toArray, List.map_cons, List.map_nil]); first | done | rfl | (simp only [List.length_drop, List.length_take]; rfl)) ?_; (with_reducible refine (PA.field_ValidName.calls k a0_0 true _ A3.out).mono ?_); rintro e w' ⟨rfl, ⟨nd, rfl⟩⟩; refine ⟨_, rfl, ?_⟩) | ((with_reducible refine gate_callee (f := 117) rfl ?_); refine goesL_ (some 15) rfl rfl Tryz.func117 (by kernel_rfl) rfl #[.string a0_1] rfl (by (try simp only [List.map_toArray, List.map_cons, List.map_nil]); first | done | rfl | (simp only [List.length_drop, List.length_take]; rfl)) ?_; (with_reducible refine (GV.Printable.calls a0_1 t106 _ A5.out).mono ?_); rintro e w' ⟨rfl, ⟨nd, rfl⟩⟩; refine ⟨_, rfl, ?_⟩))
        (try (rw [drewN_self w42]; generalize hq_ : World.drewN w42 _ = w42; have n0_ : Aside0 (Kd.R Kd.string 9 w42 w.heap.size (fun _ => True) v103 t102) := ⟨by rw [← hq_]; exact (by (with_reducible repeat (first | apply Kd.R_alloc | apply Kd.R_drewN | apply Kd.R_drew)); exact HO104.out)⟩; have n1_ : Aside0 (w42.heap[gb101]? = some (.cells #[.string a0_0, .string a0_1] 76 (0, 0))) := ⟨by rw [← hq_]; exact (by (with_reducible repeat (first | refine blk_drewN ?_ _ | refine blk_drew ?_ | refine blk_alloc ?_ _)); exact BK101.out)⟩; have n2_ : Aside0 (Below w.heap.size w w42) := ⟨by rw [← hq_]; exact (by repeat (first | (with_reducible first | exact HB.out | apply below_alloc | apply pw_below_drewN | apply below_drew1 | refine below_set ?_ GE101.out) | exact HB.out))⟩; clear HO104 BK101 HB hq_; have HO104 := n0_; have BK101 := n1_; have HB := n2_; clear n0_ n1_ n2_))
        have n0_ := Aside0.mk (Kd.R_drew HO104.out)
        have n1_ := Aside0.mk (blk_drew BK101.out)
        have n2_ := Aside0.mk (below_drew1 HB.out)
        clear HO104
        clear BK101
        clear HB
        have HO104 := n0_
        have BK101 := n1_
        have HB := n2_
        clear n0_ n1_ n2_
        obtain ⟨Ao45, co45, eo45⟩ := Kd.R_slice HO104.out
        (first | subst eo45 | (injection eo45 with f1_ f2_ f3_; have f4_ := f1_.symm; have f5_ := f3_.symm; clear f1_ f2_ f3_; subst f4_; subst f5_))
        refine start_ (n := 6) (S := fun w' => w'.cell? ⟨gb101, 0, none⟩ = some (.string a0_0) ∧ w'.cell? ⟨gb101, 1, none⟩ = some (.string a0_1)) (ds := []) #[false, false, false, false, false, false] (by kernel_rfl) rfl rfl ⟨(blk_cell BK101.out 0).trans rfl, (blk_cell BK101.out 1).trans rfl⟩ (fun hHeld => ?_)
        generalize w42.drew = w44 at HO104 BK101 HB hHeld ⊢
        refine pure_ (i := 0) (N := some 18) (v := ?_) (a' := ?_) #[true, false, false, false, false, false] rfl rfl (by kernel_rfl) (fun _ _ _ h => h) (Or.inl ⟨by rfl, ?_⟩) ?_ ?_
        rotate_left
        · intro w'
          go_simp
          with_reducible rfl
        rotate_left
        · simp only [Act.put, List.setIfInBounds_toArray, List.set_cons_zero, List.set_cons_succ, i64_w, i32_w]
          rfl
        refine pure_ (i := 2) (N := some 20) (v := ?_) (a' := ?_) #[true, false, true, false, false, false] rfl rfl (by kernel_rfl) (fun _ _ _ h => h) (Or.inl ⟨by rfl, ?_⟩) ?_ ?_
        rotate_left
        · intro w'
          go_simp
          with_reducible rfl
        rotate_left
        · simp only [Act.put, List.setIfInBounds_toArray, List.set_cons_zero, List.set_cons_succ, i64_w, i32_w]
          rfl
        refine take_ (i := 3) (N := some 21) (v := ?_) (a' := ?_) #[true, false, true, true, false, false] rfl rfl (by kernel_rfl) (fun _ _ _ h => h) (Or.inl ⟨by rfl, ?_⟩) hHeld ?_ ?_
        rotate_left
        · rintro w' ⟨s0, s1⟩
          go_simp
          with_reducible rfl
        rotate_left
        · simp only [Act.put, List.setIfInBounds_toArray, List.set_cons_zero, List.set_cons_succ, i64_w, i32_w]
          rfl
        refine one_ (i := 1) (N := some 19) #[true, true, true, true, false, false] rfl rfl (by kernel_rfl) (by decide) (fun K hK => ?_)
        refine goes_ Tryz.func118 (by kernel_rfl) rfl #[.slice Ao45 t102.length co45, .string (⟨#[32]⟩ : ByteArray)] (by rfl) rfl rfl (by (try simp only [List.map_toArray, List.map_cons, List.map_nil]); first | done | rfl | (simp only [List.length_drop, List.length_take]; rfl)) ?_
        with_reducible refine (GV.Join.calls _ _ t102 (⟨#[32]⟩ : ByteArray) t107 _ ?side1 ?side2 A11.out).mono ?_
        (case side1 => repeat (first | exact (Kd.R_reads' HO104.out).2.2 | (with_reducible refine Kd.C_alloc ?_ _) | (with_reducible refine Kd.C_drewN ?_ _) | (with_reducible refine Kd.C_drew ?_)))
        (case side2 => exact (Kd.R_reads' HO104.out).2.1)
        rintro e w46 ⟨rfl, hb⟩
        refine ⟨_, rfl, ?_⟩
        have n0_ := Aside0.mk (Kd.R_below (by (with_reducible repeat (first | apply Kd.R_alloc | apply Kd.R_drewN | apply Kd.R_drew)); exact HO104.out) hb)
        have n1_ := Aside0.mk (blk_below (g := gb101) (o := .cells #[.string a0_0, .string a0_1] 76 (0, 0)) (by (with_reducible repeat (first | refine blk_drewN ?_ _ | refine blk_drew ?_ | refine blk_alloc ?_ _)); exact BK101.out) hb)
        have n2_ := Aside0.mk (below_step (by repeat (first | (with_reducible first | exact HB.out | apply below_alloc | apply pw_below_drewN | apply below_drew1 | refine below_set ?_ GE101.out) | exact HB.out)) hb)
        clear HO104
        clear BK101
        clear HB
        have HO104 := n0_
        have BK101 := n1_
        have HB := n2_
        clear n0_ n1_ n2_
        (try clear hb)
        (try clear hb2)
        (try clear hk)
        (try clear hi)
        refine hK.out _ _ ⟨(blk_cell BK101.out 0).trans rfl, (blk_cell BK101.out 1).trans rfl⟩ (fun hHeld => ?_)
        clear hK K
        refine norm_ (a' := ?_) ?_ ?_
        rotate_left
        · show Act.put _ (some 19) _ = _
          simp only [Act.put, List.setIfInBounds_toArray, List.set_cons_zero, List.set_cons_succ, i64_w, i32_w]
          rfl
        refine pure_ (i := 4) (N := some 22) (v := ?_) (a' := ?_) #[true, true, true, true, true, false] rfl rfl (by kernel_rfl) (fun _ _ _ h => h) (Or.inl ⟨by rfl, ?_⟩) ?_ ?_
        rotate_left
        · intro w'
          go_simp
          with_reducible rfl
        rotate_left
        · simp only [Act.put, List.setIfInBounds_toArray, List.set_cons_zero, List.set_cons_succ, i64_w, i32_w]
          rfl
        refine pure_ (i := 5) (N := some 17) (v := ?_) (a' := ?_) #[true, true, true, true, true, true] rfl rfl (by kernel_rfl) (fun _ _ _ h => h) (Or.inl ⟨by rfl, ?_⟩) ?_ ?_
        rotate_left
        · intro w'
          go_simp
          with_reducible rfl
        rotate_left
        · simp only [Act.put, List.setIfInBounds_toArray, List.set_cons_zero, List.set_cons_succ, i64_w, i32_w]
          rfl
        refine done_ (by kernel_rfl) ?_
        try go_wp2
        go_ret
        exact ⟨by first | rfl | (simp [errW_none, errW_some] <;> rfl) | (simp [*, errW_none, errW_some] <;> rfl), by repeat (first | (with_reducible first | exact HB.out | apply below_alloc | apply pw_below_drewN | apply below_drew1 | refine below_set ?_ GE101.out) | exact HB.out)⟩
  · replace c4 := Bool.eq_false_iff.mpr c4
    subst c4
    have H1 : (some 12) = some r := by rw [if_neg (show ¬ (false = true) by decide)] at H; exact H
    clear H
    have H := H1
    clear H1
    obtain rfl := Option.some.inj H
    go_enter Tryz.func89, Tryz.ntmps89
    go_wp2_with (first | ((with_reducible refine gate_dst (N := 1) rfl ?_); refine box_event ?hg (N := 1) ?hd (cs := #[.string a0_0, .string a0_1]) (t := 76) ?hr ?_; (case hd => rfl); (case hg => rfl); (case hr => first | (go_simp; done) | (go_simp; rfl)); intro gb101 hg w47 hbox hb; have n0_ := Aside0.mk (below_step (by repeat (first | (with_reducible first | exact HB.out | apply below_alloc | apply pw_below_drewN | apply below_drew1) | exact HB.out)) hb); have n1_ := Aside0.mk (hbox); have n2_ := Aside0.mk ((by rw [hg]; exact (below_size (by repeat (first | (with_reducible first | exact HB.out | apply below_alloc | apply pw_below_drewN | apply below_drew1) | exact HB.out))) : w.heap.size ≤ gb101)); have n3_ := Aside0.mk ((by rw [hg]; exact (below_size (by repeat (first | (with_reducible first | exact HB.out | apply below_alloc | apply pw_below_drewN | apply below_drew1) | exact HB.out))) : w.heap.size ≤ gb101)); clear HB; have HB := n0_; have BK101 := n1_; have GW101 := n2_; have GE101 := n3_; clear n0_ n1_ n2_ n3_; clear hb hbox hg; have hcz48_0 : w47.cell? ⟨gb101, 0, none⟩ = some (.string a0_0) := (blk_cell BK101.out 0).trans rfl; have hcz48_1 : w47.cell? ⟨gb101, 1, none⟩ = some (.string a0_1) := (blk_cell BK101.out 1).trans rfl; have hfz48_0 := blk_frozen BK101.out 0; have hfz48_1 := blk_frozen BK101.out 1) | ((with_reducible refine gate_callee (f := 90) rfl ?_); refine goesL_ (some 6) rfl rfl Tryz.func90 (by kernel_rfl) rfl #[.string a0_1] rfl (by (try simp only [List.map_toArray, List.map_cons, List.map_nil]); first | done | rfl | (simp only [List.length_drop, List.length_take]; rfl)) ?_; (with_reducible refine (GV.Words.calls a0_1 t102 _ A2.out).mono ?_); rintro e w49 ⟨v103, rfl, ho0, hb⟩; refine ⟨_, rfl, ?_⟩; have n0_ := Aside0.mk (Kd.R_lower ho0 (below_size (by repeat (first | (with_reducible first | exact HB.out | apply below_alloc | apply pw_below_drewN | apply below_drew1 | refine below_set ?_ GE101.out) | exact HB.out)))); have n1_ := Aside0.mk (blk_below (g := gb101) (o := .cells #[.string a0_0, .string a0_1] 76 (0, 0)) (by (with_reducible repeat (first | refine blk_drewN ?_ _ | refine blk_drew ?_ | refine blk_alloc ?_ _)); exact BK101.out) hb); have n2_ := Aside0.mk (below_step (by repeat (first | (with_reducible first | exact HB.out | apply below_alloc | apply pw_below_drewN | apply below_drew1 | refine below_set ?_ GE101.out) | exact HB.out)) hb); clear BK101; clear HB; have HO104 := n0_; have BK101 := n1_; have HB := n2_; clear n0_ n1_ n2_; (try clear hb); (try clear hb2); (try clear hk); (try clear hi); (try clear ho0); have hcz50_0 : w49.cell? ⟨gb101, 0, none⟩ = some (.string a0_0) := (blk_cell BK101.out 0).trans rfl; have hcz50_1 : w49.cell? ⟨gb101, 1, none⟩ = some (.string a0_1) := (blk_cell BK101.out 1).trans rfl; have hfz50_0 := blk_frozen BK101.out 0; have hfz50_1 := blk_frozen BK101.out 1) | ((with_reducible refine gate_callee (f := 116) rfl ?_); refine goesL_ (some 10) rfl rfl Tryz.func116 (by kernel_rfl) rfl #[.string a0_0] rfl (by (try simp only [List.map_toArray, List.map_cons, List.map_nil]); first | done | rfl | (simp only [List.length_drop, List.length_take]; rfl)) ?_; (with_reducible refine (PA.field_ValidName.calls k a0_0 false _ A3.out).mono ?_); rintro e w' ⟨rfl, ⟨nd, rfl⟩⟩; refine ⟨_, rfl, ?_⟩))
    go_ret
    exact ⟨by first | rfl | (simp [errW_none, errW_some] <;> rfl) | (simp [*, errW_none, errW_some] <;> rfl), by repeat (first | (with_reducible first | exact HB.out | apply below_alloc | apply pw_below_drewN | apply below_drew1 | refine below_set ?_ GE101.out) | exact HB.out)⟩

end Go.Proofs.YtfeciafdioepiaaGreatDoor.PB
set_option linter.unusedVariables false
set_option linter.unusedSimpArgs false
/- WriteString beside other rows; the contract of Field.Fold. -/
namespace Go.Proofs.YtfeciafdioepiaaGreatDoor
open Go.RowKit Go.Proofs Go.Proofs.YtfeciafdioepiaaGreatDoorW.PrintWords Go.Proofs.YtfeciafdioepiaaGreatDoor.PA

/-- The rows that are of no builder stay. -/
def Sib (w w' : World) : Prop := ∀ (k : Nat) (cs : Array Value) (T : TypeId), w.heap[k]? = some (Obj.cells cs T (0, 0)) → T ≠ 85 → T ≠ 5 → w'.heap[k]? = w.heap[k]?
theorem Sib.refl (w : World) : Sib w w := fun _ _ _ _ _ _ => rfl
theorem Sib.trans {w w1 w2 : World} (h : Sib w w1) (k : Sib w1 w2) : Sib w w2 := fun i cs T hi h1 h2 => (k i cs T ((h i cs T hi h1 h2).trans hi) h1 h2).trans (h i cs T hi h1 h2)
theorem Sib.below {w w1 : World} (h : Below w.heap.size w w1) : Sib w w1 := fun i cs T hi _ _ => h.block i (by
  rcases Nat.lt_or_ge i w.heap.size with h' | h'
  · exact h'
  · simp [Array.getElem?_eq_none h'] at hi)
theorem Sib.set_ {w : World} {b : Nat} {cs : Array Value} (hb : w.heap[b]? = some (.cells cs 85 (0, 0))) (j : Nat) (v : Value) : Sib w (w.setCell ⟨b, j, none⟩ v) := fun k cs' T hk h1 _ => by
  refine Below.heap_setCell _ _ _ _ ?_
  rintro rfl
  rw [hk] at hb
  injection hb with hb
  injection hb with _ hb
  exact h1 hb
theorem R_sib {α : Type} {d : Kd α} {e : Nat} {w w1 : World} {base : Nat} {ok : Nat → Prop} {v : Value} {xs : List α} (h : d.R e w base ok v xs) (hs : Sib w w1) (ht : ∀ q, q ∈ e :: d.E → q ≠ 85 ∧ q ≠ 5) : d.R e w1 base ok v xs :=
  Kd.R_mono (Kd.R_step (Kd.R_bound h) (fun k hk _ => by
    obtain ⟨_, _, _, q, hq, cells, hc⟩ := hk
    exact hs k cells q hc (ht q hq).1 (ht q hq).2)) (fun _ hk => hk.1)

theorem copyCheck2 (B b : Nat) (bs : List Value) (w : World) (h : Lib.IsBuilder 85 5 B b bs w) :
    Calls Tryz.prog 74 #[.pointer (some ⟨b, 0, none⟩)] w fun e w' => e = .returned (.tuple #[]) ∧ (Lib.BuilderAt 85 5 B b (.pointer (some ⟨b, 0, none⟩)) bs w' ∧ Below B w w' ∧ Sib w w') := by
  rcases h with h | h
  · refine (copyCheck_fresh b w h.cell0 h.shape h.frozen0).mono ?_
    rintro e w' ⟨rfl, rfl⟩
    obtain ⟨hB, v, hb, _⟩ := id h
    exact ⟨rfl, h.used _, (Below.refl B w).setCell (p := ⟨b, 0, none⟩) h.1 _, Sib.set_ hb 0 _⟩
  · refine (copyCheck_used b w h.cell0).mono ?_
    rintro e w' ⟨rfl, rfl⟩
    exact ⟨rfl, h, Below.refl B _, Sib.refl _⟩

set_option maxHeartbeats 2000000 in
set_option maxRecDepth 100000 in
theorem writeString2 (B b : Nat) (bs : List Value) (s : ByteArray) (w : World) (h : Lib.IsBuilder 85 5 B b bs w) (hlen : bs.length + s.size ≤ 140737488355328) (hBw : B ≤ w.heap.size) :
    Calls Tryz.prog 47 #[.pointer (some ⟨b, 0, none⟩), .string s] w fun e w' => e = .returned (.tuple #[.int .i64 s.size, .nilIface]) ∧ (Lib.BuilderAt 85 5 B b (.pointer (some ⟨b, 0, none⟩)) (bs ++ Lib.strCells s) w' ∧ Below B w w' ∧ Sib w w') := by
  obtain ⟨i0, hi, hz0, hz1, hz2⟩ := info_parts infoByte
  go_enter Tryz.func47, Tryz.ntmps47
  go_wp2_with (go_at_call 74; refine (copyCheck2 B b bs _ h).mono ?_)
  rintro e w1 ⟨rfl, h1, hb1, hs1⟩
  obtain ⟨hB, v, hbk, hown, hne⟩ := h1
  have c0 : w1.cell? ⟨b, 0, none⟩ = some (.pointer (some ⟨b, 0, none⟩)) := by rw [Lib.cell_of_heap hbk]; rfl
  have c1 : w1.cell? ⟨b, 1, none⟩ = some v := by rw [Lib.cell_of_heap hbk]; rfl
  go_wp2_with (at_builtin; refine Lib.wpList_append_own_string _ rfl _ _ 44 9 rfl B 5 i0 Tryz.underlying44 Tryz.underlying9 hi hz0 hz1 hz2 _ _ _ rfl hown s rfl ?c3 ?c4 ?c5 ?_)
  case c3 => unfold maxLen; omega
  case c4 => omega
  case c5 => have := hb1.size; omega
  intro v' w2 hown' hgrow _
  have hlt : b < w1.heap.size := by
    rcases Nat.lt_or_ge b w1.heap.size with h' | h'
    · exact h'
    · simp [Array.getElem?_eq_none h'] at hbk
  have hb2 : w2.heap[b]? = some (.cells #[.pointer (some ⟨b, 0, none⟩), v] 85 (0, 0)) := by
    rw [hgrow.block b hlt (fun e => hne e.symm)]
    exact hbk
  have d0 : w2.cell? ⟨b, 0, none⟩ = some (.pointer (some ⟨b, 0, none⟩)) := by rw [Lib.cell_of_heap hb2]; rfl
  have d1 : w2.cell? ⟨b, 1, none⟩ = some v := by rw [Lib.cell_of_heap hb2]; rfl
  have f1 : w2.frozen? ⟨b, 1, none⟩ = false := Lib.frozen_of_heap hb2 1
  have hs2 : Sib w1 w2 := fun k cs T hk h1 h2 => by
    refine hgrow.block k ?_ ?_
    · rcases Nat.lt_or_ge k w1.heap.size with h' | h'
      · exact h'
      · simp [Array.getElem?_eq_none h'] at hk
    · exact fun e => Lib.ownBlock_ne hown hk h2 e.symm
  obtain ⟨ao, n', cap, rfl⟩ : ∃ ao n' cap, v' = .slice ao n' cap := by
    rcases hown'.2 with ⟨hv, _⟩ | ⟨g, cap, cur, hv, _⟩
    · exact ⟨_, _, _, hv⟩
    · exact ⟨_, _, _, hv⟩
  go_wp2
  go_ret2
  refine ⟨rfl, ?_, ?_, (hs1.trans hs2).trans (Sib.set_ hb2 1 _)⟩
  · exact Lib.BuilderAt.put (T := 85) (e := 5) hB hb2 (bs' := bs ++ Lib.strCells s) (by simpa [Lib.strCells_length] using hown') (by decide)
  · exact (hb1.grown hgrow (by have := hb1.size; omega) (fun k hk => (hown.lt k hk).1)).setCell (p := ⟨b, 1, none⟩) hB _

theorem fresh_builder {w : World} {B b : Nat} (hB : B ≤ b) (hb : w.heap[b]? = some (.cells #[.pointer none, .slice none 0 0] 85 (0, 0))) : Lib.IsBuilder 85 5 B b (Lib.byteCells []) w :=
  .inl ⟨hB, .slice none 0 0, hb, World.ownsRow_nil _ _ _ _, by simp [Value.ownBlock]⟩

theorem mkS_append (a b : List UInt8) : mkS a ++ mkS b = mkS (a ++ b) := by
  have : ∀ x y : ByteArray, x.data.toList = y.data.toList → x = y := fun x y h => by
    cases x; cases y; simp at h; subst h; rfl
  apply this
  simp [mkS, ByteArray.data_append]
theorem IsBuilder_below {w w1 : World} {B b : Nat} {bs : List Value} (h : Lib.IsBuilder 85 5 B b bs w) (hb : Below w.heap.size w w1) : Lib.IsBuilder 85 5 B b bs w1 := by
  have key : ∀ p, Lib.BuilderAt 85 5 B b p bs w → Lib.BuilderAt 85 5 B b p bs w1 := by
    intro p h
    have hlt := h.lt
    obtain ⟨hB, v, hv, hown, hne⟩ := h
    refine ⟨hB, v, (hb.block b hlt).trans hv, ?_, hne⟩
    refine ⟨hown.1, ?_⟩
    rcases hown.2 with hn | ⟨g, cap, cur, rfl, hbg, hgg, rest⟩
    · exact .inl hn
    · exact .inr ⟨g, cap, cur, rfl, hbg, (hb.block g (Array.getElem?_eq_some_iff.1 hgg).1).trans hgg, rest⟩
  exact h.elim (fun x => .inl (key _ x)) (fun x => .inr (key _ x))

/-- The lines of a folded field. -/
def foldW : List (List UInt8) → List UInt8 → List UInt8 → Bool → List UInt8
  | [], out, line, _ => out ++ (line ++ [10])
  | x :: xs, out, line, e => if e = false ∧ 78 < line.length + 1 + x.length then foldW xs (out ++ (line ++ [10])) (32 :: x) false else foldW xs out (line ++ 32 :: x) false
def foldL (name body : List UInt8) : List UInt8 := foldW (wordsL body) [] (name ++ [58]) true
def costW (ws : List (List UInt8)) : Nat := sumL ws + 2 * ws.length
theorem costW_cons (x : List UInt8) (xs : List (List UInt8)) : costW (x :: xs) = x.length + 2 + costW xs := by
  simp [costW, sumL]; omega
theorem mkS_one (c : UInt8) : (⟨#[c]⟩ : ByteArray) = mkS [c] := rfl
theorem mkS_nil : (⟨#[]⟩ : ByteArray) = mkS [] := rfl
end Go.Proofs.YtfeciafdioepiaaGreatDoor

/- The contract of Field.Fold. -/
namespace Go.Proofs.YtfeciafdioepiaaGreatDoor
open Go.RowKit Go.Proofs Go.Proofs.YtfeciafdioepiaaGreatDoorW.PrintWords Go.Proofs.YtfeciafdioepiaaGreatDoor.PA

def GV.Fold.f (k : Nat) (a b : ByteArray) : Option (ByteArray × Int) := (PB.field_Field_Check.f k a b).bind fun e => if e = 0 then (if a.size ≤ 1000000 ∧ b.size ≤ 1000000 then some (mkS (foldL a.data.toList b.data.toList), 0) else none) else some (⟨#[]⟩, e)
theorem str_mk (s : ByteArray) : Lib.strCells s = Lib.byteCells s.data.toList := rfl

set_option maxHeartbeats 2000000 in
set_option maxRecDepth 100000 in
theorem GV.Fold.calls (k : Nat) (a0_0 a0_1 : ByteArray) (r1 : ByteArray) (r2 : Int) (w : World) (h : GV.Fold.f k a0_0 a0_1 = some (r1, r2)) :
    Calls Tryz.prog 64 #[.agg #[.string a0_0, .string a0_1]] w fun e w' => e = .returned (.tuple #[.string r1, .int .i64 r2]) ∧ Below w.heap.size w w' := by
  have hBX : (w.alloc (.cells #[.string a0_0, .string a0_1] 76)).heap[w.heap.size]? = some (.cells #[.string a0_0, .string a0_1] 76 (0, 0)) := by simpa using heap_alloc_new w (.cells #[.string a0_0, .string a0_1] 76)
  have HBX := Aside0.mk hBX
  have HW0 := Aside0.mk ((Below.refl w.heap.size w).alloc (Nat.le_refl _) (.cells #[.string a0_0, .string a0_1] 76))
  clear hBX
  obtain ⟨e0, he0, h1⟩ := Option.bind_eq_some_iff.mp h
  have He0 := Lib.hid he0
  clear h he0
  by_cases hz : e0 = 0
  · rw [if_pos hz] at h1
    subst hz
    split at h1
    · rename_i hsz
      obtain ⟨hsa, hsb⟩ := hsz
      injection h1 with h1
      injection h1 with h1 h2
      have HR := Lib.hid h1
      subst h2
      clear h1
      go_enter Tryz.func64, Tryz.ntmps64
      go_wp2_with fail
      refine (PB.field_Field_Check.calls k _ _ _ _ He0.out).mono ?_
      rintro e w1 ⟨rfl, hb1⟩
      have hB1 := HW0.out.trans (hb1.mono (by simp))
      have HBX1 := Aside0.mk ((hb1.block w.heap.size (by simp)).trans HBX.out)
      have hc0 := (blk_cell HBX1.out 0).trans rfl
      have hc1 := (blk_cell HBX1.out 1).trans rfl
      have hlt1 : w.heap.size ≤ w1.heap.size := hB1.size
      have hblt : w.heap.size < w1.heap.size := by have := hb1.size; simp at this; omega
      have HB1 := Aside0.mk hB1
      have hn1 : w.heap.size ≠ w1.heap.size := by omega
      clear hb1 hB1
      have HFB := Aside0.mk (fresh_builder (w := w1.alloc (.cells #[.pointer none, .slice none 0 0] 85)) (B := w.heap.size) (b := w1.heap.size) hlt1 (by simpa using heap_alloc_new w1 (.cells #[.pointer none, .slice none 0 0] 85)))
      go_wp2_with fail
      refine (ascii_Words.calls a0_1 _ (by omega)).mono ?_
      rintro e w2 ⟨v2, rfl, hR2, hb2⟩
      obtain ⟨A2, c2, rfl⟩ := Kd.R_slice hR2
      have hwl := wordsL_len a0_1.data.toList
      have hws := wordsL_sum a0_1.data.toList
      have hsa' : a0_0.data.toList.length = a0_0.size := by simp
      have hsb' : a0_1.data.toList.length = a0_1.size := by simp
      have hR2' : Kd.R Kd.string 9 w2 _ (fun _ => True) (.slice A2 (wordsB a0_1).length c2) ((wordsL a0_1.data.toList).map mkS) := hR2
      have HR2 := Aside0.mk hR2'
      have hcn : (wordsB a0_1).length = (wordsL a0_1.data.toList).length := by unfold wordsB; rw [List.length_map]
      rw [hcn] at HR2 ⊢
      have HFB2 := Aside0.mk (IsBuilder_below HFB.out hb2)
      have HB2 := Aside0.mk ((HB1.out.alloc hlt1 (.cells #[.pointer none, .slice none 0 0] 85)).trans (hb2.mono (by simp; omega)))
      have hbs2 : w1.heap.size < w2.heap.size := by have := hb2.size; simp at this; omega
      have hres : mkS (foldW (wordsL a0_1.data.toList) [] (a0_0.data.toList ++ [58]) true) = r1 := HR.out
      have hline : a0_0 ++ ⟨#[58]⟩ = mkS (a0_0.data.toList ++ [58]) := by rw [← mkS_append, mkS_data]; rfl
      have hcost : costW (wordsL a0_1.data.toList) ≤ 3000000 := by unfold costW; omega
      have hnl : (a0_0.data.toList ++ [58]).length ≤ 1000001 := by simp; omega
      rw [hline]
      generalize hws : wordsL a0_1.data.toList = ws at *
      generalize hnm : a0_0.data.toList ++ [58] = nm at *
      have Hres := Lib.hid hres
      have Hcost := Lib.hid hcost
      have Hnl := Lib.hid hnl
      have hwl3 : ws.length ≤ 1000001 := by omega
      clear hR2 hb2 hR2' hwl hws hsa' hsb' hcn hres hline hcost hnm HR hnl
      generalize hBb : w1.heap.size = b at *
      clear HFB HBX1 hc0 hc1 HB1 hBb
      go_wp2
      go_loopw [6, 7, 22] (fun v6 v7 v22 wr => ∃ (j : Nat) (out line : List UInt8) (e : Bool), j ≤ ws.length ∧ v22 = .int .i64 j ∧ v6 = .string (mkS line) ∧ v7 = .bool e ∧ Aside0 (mkS (foldW (ws.drop j) out line e) = r1) ∧ Aside0 (out.length + line.length + costW (ws.drop j) ≤ 5000000) ∧ Aside0 (Lib.IsBuilder 85 5 w.heap.size b (Lib.byteCells out) wr) ∧
        Aside0 (Below w.heap.size w wr) ∧ Aside0 (Kd.R Kd.string 9 wr (w1.alloc (.cells #[.pointer none, .slice none 0 0] 85)).heap.size (fun _ => True) (.slice A2 ws.length c2) (ws.map mkS))) (fun v6 v7 v22 _ => ws.length - (intOf v22).toNat)
      case atStart => exact ⟨0, [], nm, true, Nat.zero_le _, rfl, rfl, rfl, ⟨Hres.out⟩, ⟨by have := Hcost.out; have := Hnl.out; simp; omega⟩, HFB2, HB2, HR2⟩
      case round =>
        obtain ⟨j, out, line, e, hj, rfl, rfl, rfl, HE, HC, HBl, HW, HR⟩ := hrel
        by_cases hlt : j < ws.length
        · have hdk : ws.drop j = ws[j] :: ws.drop (j + 1) := List.drop_eq_getElem_cons hlt
          obtain ⟨ad, hA, hx0⟩ := Kd.at_string (Kd.R_reads' HR.out).2.2 j (by omega) (by simp; omega)
          have hget : rdOf ByteArray.empty (ws.map mkS) (j : Int) = mkS ws[j] := by
            unfold rdOf; rw [Int.toNat_natCast, List.getD_eq_getElem?_getD, List.getElem?_map, List.getElem?_eq_getElem hlt]; rfl
          rw [hget] at hx0
          rw [Int.toNat_natCast] at hx0
          have hE2 := HE.out
          have hC2 := HC.out
          rw [hdk] at hE2 hC2
          rw [costW_cons] at hC2
          generalize hxq : ws[j] = x at *
          have hxs := mkS_size x
          have hls := mkS_size line
          have hl1 : (mkS line ++ (⟨#[10]⟩ : ByteArray)) = mkS (line ++ [10]) := by rw [mkS_one, mkS_append]
          have hl2 : (mkS line ++ (⟨#[32]⟩ : ByteArray)) = mkS (line ++ [32]) := by rw [mkS_one, mkS_append]
          have hl3 : ((⟨#[]⟩ : ByteArray) ++ (⟨#[32]⟩ : ByteArray)) = mkS [32] := by rw [mkS_one, mkS_nil, mkS_append]; rfl
          have Hl1 := Lib.hid hl1
          have Hl2 := Lib.hid hl2
          have Hl3 := Lib.hid hl3
          have Hxs := Lib.hid hxs
          have Hls := Lib.hid hls
          have hE3 : mkS (if e = false ∧ 78 < line.length + 1 + x.length then foldW (ws.drop (j + 1)) (out ++ (line ++ [10])) (32 :: x) false else foldW (ws.drop (j + 1)) out (line ++ 32 :: x) false) = r1 := hE2
          have HE3 := Lib.hid hE3
          subst hA
          clear hdk hget hE2 hE3 hxq hl1 hl2 hl3 HE HC
          have hxs1 : (mkS x).size ≤ 5000000 := by omega
          have hls1 : (mkS line).size ≤ 5000000 := by omega
          rcases Bool.eq_false_or_eq_true e with rfl | rfl
          · have hE4 := HE3.out
            rw [if_neg (by simp)] at hE4
            have HE4 := Aside0.mk hE4
            have hadd : (mkS (line ++ [32]) ++ mkS x) = mkS (line ++ 32 :: x) := by rw [mkS_append]; simp
            have Hadd := Lib.hid hadd
            have hsz4 : (mkS line ++ (⟨#[32]⟩ : ByteArray)).size ≤ 5000001 := by rw [Hl2.out, mkS_size]; simp; omega
            clear hE4 HE3 hadd
            go_wp2
            go_roundw
            case rel => exact ⟨j + 1, out, line ++ 32 :: x, false, by omega, by go_num, by rw [Hl2.out, Hadd.out], rfl, ⟨HE4.out⟩, ⟨by simp; omega⟩, HBl, HW, HR⟩
            case measure => simp [intOf]; omega
          · by_cases hlong : 78 < line.length + 1 + x.length
            · have hE4 := HE3.out
              rw [if_pos ⟨rfl, hlong⟩] at hE4
              have HE4 := Aside0.mk hE4
              have hadd : (mkS [32] ++ mkS x) = mkS (32 :: x) := by rw [mkS_append]; simp
              have Hadd := Lib.hid hadd
              have hcells : Lib.byteCells out ++ Lib.strCells (mkS (line ++ [10])) = Lib.byteCells (out ++ (line ++ [10])) := by rw [str_mk, mkS_toList, ← Lib.byteCells_append]
              have Hcells := Lib.hid hcells
              have hsz4 : ((⟨#[]⟩ : ByteArray) ++ (⟨#[32]⟩ : ByteArray)).size ≤ 1 := by rw [Hl3.out, mkS_size]; simp
              clear hE4 HE3 hadd hcells
              go_wp2_with fail
              rw [Hl1.out]
              refine (writeString2 w.heap.size b _ (mkS (line ++ [10])) _ HBl.out (by rw [Lib.byteCells_length, mkS_size]; simp; omega) HW.out.size).mono ?_
              rintro e w3 ⟨rfl, hb3, hw3, hs3⟩
              rw [Hcells.out] at hb3
              have HBl3 := Aside0.mk (Or.inr hb3 : Lib.IsBuilder 85 5 w.heap.size b (Lib.byteCells (out ++ (line ++ [10]))) w3)
              have HW3 := Aside0.mk (HW.out.trans hw3)
              have HR3 := Aside0.mk (R_sib HR.out hs3 (by decide))
              clear hb3 hw3 hs3
              go_wp2
              go_roundw
              case rel => exact ⟨j + 1, out ++ (line ++ [10]), 32 :: x, false, by omega, by go_num, by rw [Hl3.out, Hadd.out], rfl, ⟨HE4.out⟩, ⟨by simp; omega⟩, HBl3, HW3, HR3⟩
              case measure => simp [intOf]; omega
            · have hE4 := HE3.out
              rw [if_neg (fun h => hlong h.2)] at hE4
              have HE4 := Aside0.mk hE4
              have hadd : (mkS (line ++ [32]) ++ mkS x) = mkS (line ++ 32 :: x) := by rw [mkS_append]; simp
              have Hadd := Lib.hid hadd
              have hsz4 : (mkS line ++ (⟨#[32]⟩ : ByteArray)).size ≤ 5000001 := by rw [Hl2.out, mkS_size]; simp; omega
              clear hE4 HE3 hadd
              go_wp2
              go_roundw
              case rel => exact ⟨j + 1, out, line ++ 32 :: x, false, by omega, by go_num, by rw [Hl2.out, Hadd.out], rfl, ⟨HE4.out⟩, ⟨by simp; omega⟩, HBl, HW, HR⟩
              case measure => simp [intOf]; omega
        · have hk2 : ws.drop j = [] := List.drop_eq_nil_of_le (by omega)
          have hE := HE.out
          have hC2 := HC.out
          rw [hk2] at hE hC2
          have hE2 : mkS (out ++ (line ++ [10])) = r1 := hE
          have HE2 := Aside0.mk hE2
          have hl1 : (mkS line ++ (⟨#[10]⟩ : ByteArray)) = mkS (line ++ [10]) := by rw [mkS_one, mkS_append]
          have Hl1 := Lib.hid hl1
          have hcells : Lib.byteCells out ++ Lib.strCells (mkS (line ++ [10])) = Lib.byteCells (out ++ (line ++ [10])) := by rw [str_mk, mkS_toList, ← Lib.byteCells_append]
          have Hcells := Lib.hid hcells
          have hls := mkS_size line
          have hls1 : (mkS line).size ≤ 5000000 := by omega
          clear hk2 hE hE2 hl1 hcells HE
          go_wp2_with fail
          rw [Hl1.out]
          refine (writeString2 w.heap.size b _ (mkS (line ++ [10])) _ HBl.out (by rw [Lib.byteCells_length, mkS_size]; simp; omega) HW.out.size).mono ?_
          rintro e w3 ⟨rfl, hb3, hw3, hs3⟩
          rw [Hcells.out] at hb3
          have HBl3 := Aside0.mk (Or.inr hb3 : Lib.IsBuilder 85 5 w.heap.size b (Lib.byteCells (out ++ (line ++ [10]))) w3)
          have HW3 := Aside0.mk (HW.out.trans hw3)
          clear hb3 hw3 hs3
          go_wp2_with fail
          refine (Tryz.Builder_String_any w.heap.size b _ _ HBl3.out HW3.out.size).mono ?_
          rintro e w4 ⟨rfl, hw4⟩
          have HW4 := Aside0.mk (HW3.out.trans hw4)
          clear hw4
          go_wp2
          go_ret2
          exact ⟨by rw [← HE2.out]; rfl, HW4.out⟩
    · cases h1
  · rw [if_neg hz] at h1
    injection h1 with h1
    injection h1 with h1 h2
    subst h1 h2
    have hzb : (e0 == 0) = false := beq_eq_false_iff_ne.2 hz
    have hzb2 : (e0 != 0) = true := bne_iff_ne.2 hz
    have Hz := Lib.hid hz
    clear hz
    go_enter Tryz.func64, Tryz.ntmps64
    go_wp2_with fail
    refine (PB.field_Field_Check.calls k _ _ _ _ He0.out).mono ?_
    rintro e w1 ⟨rfl, hb1⟩
    have hB1 := HW0.out.trans (hb1.mono (by simp))
    go_wp2
    go_ret2
    exact ⟨rfl, hB1⟩
end Go.Proofs.YtfeciafdioepiaaGreatDoor

/- The contract of field.Print. -/
namespace Go.Proofs.YtfeciafdioepiaaGreatDoor
open Go.RowKit Go.Proofs Go.Proofs.YtfeciafdioepiaaGreatDoorW.PrintWords Go.Proofs.YtfeciafdioepiaaGreatDoor.PA

def GV.Print.go (k : Nat) : List S76 → List UInt8 → Option (ByteArray × Int)
  | [], out => if 65536 < out.length then some (⟨#[]⟩, 5) else some (mkS out, 0)
  | x :: xs, out => (GV.Fold.f k x.f0 x.f1).bind fun p => if p.2 = 0 then (if p.1.size ≤ 4000000 then GV.Print.go k xs (out ++ p.1.data.toList) else none) else some (⟨#[]⟩, p.2)
def GV.Print.f (k : Nat) (l : List S76) : Option (ByteArray × Int) := if 64 < l.length then some (⟨#[]⟩, 9) else GV.Print.go k l []
set_option maxHeartbeats 2000000 in
set_option maxRecDepth 100000 in
theorem GV.Print.calls (k : Nat) (A0 : Option Addr) (c0 : Nat) (l0 : List S76) (r1 : ByteArray) (r2 : Int) (w : World) (hr0 : Kd.C k76 w A0 l0.length l0) (hc0 : l0.length ≤ c0) (h : GV.Print.f k l0 = some (r1, r2)) :
    Calls Tryz.prog 40 #[.slice A0 l0.length c0] w fun e w' => e = .returned (.tuple #[.string r1, .int .i64 r2]) ∧ Below w.heap.size w w' := by
  have HR := Aside0.mk hr0
  have HC0 := Aside0.mk hc0
  clear hr0 hc0
  unfold GV.Print.f at h
  generalize hn : l0.length = n at *
  have Hn := Lib.hid hn
  clear hn
  by_cases h64 : 64 < n
  · rw [if_pos h64] at h
    injection h with h
    injection h with h1 h2
    subst h1 h2
    go_enter Tryz.func40, Tryz.ntmps40
    go_wp2
    go_ret2
    exact ⟨rfl, Below.refl _ _⟩
  · rw [if_neg h64] at h
    have H0 := Aside0.mk h
    have HFB := Aside0.mk (fresh_builder (w := w.alloc (.cells #[.pointer none, .slice none 0 0] 85)) (B := w.heap.size) (b := w.heap.size) (Nat.le_refl _) (by simpa using heap_alloc_new w (.cells #[.pointer none, .slice none 0 0] 85)))
    have HB0 := Aside0.mk ((Below.refl w.heap.size w).alloc (Nat.le_refl _) (.cells #[.pointer none, .slice none 0 0] 85))
    clear h
    go_enter Tryz.func40, Tryz.ntmps40
    go_wp2
    go_loopw [14] (fun v14 wr => ∃ (j : Nat) (out : List UInt8), j ≤ n ∧ v14 = .int .i64 j ∧ Aside0 (GV.Print.go k (l0.drop j) out = some (r1, r2)) ∧ Aside0 (out.length ≤ j * 4000000) ∧ Aside0 (Lib.IsBuilder 85 5 w.heap.size w.heap.size (Lib.byteCells out) wr) ∧ Aside0 (Below w.heap.size w wr)) (fun v14 _ => n - (intOf v14).toNat)
    case atStart => exact ⟨0, [], Nat.zero_le _, rfl, H0, ⟨by simp⟩, HFB, HB0⟩
    case round =>
      obtain ⟨j, out, hj, rfl, HE, HS, HBl, HW⟩ := hrel
      by_cases hlt : j < n
      · obtain ⟨ad, hA, hx0, hx1⟩ := at_T76 HR.out (j : Int) (by omega) (by omega)
        rw [Int.toNat_natCast] at hx0 hx1
        have hget : rd_T76 l0 (j : Int) = l0[j]'(by have := Hn.out; omega) := by
          unfold rd_T76; rw [Int.toNat_natCast, List.getD_eq_getElem?_getD, List.getElem?_eq_getElem (by have := Hn.out; omega)]; rfl
        have hdk : l0.drop j = l0[j]'(by have := Hn.out; omega) :: l0.drop (j + 1) := List.drop_eq_getElem_cons (by have := Hn.out; omega)
        have hE := HE.out
        rw [hdk, ← hget] at hE
        generalize rd_T76 l0 (j : Int) = x at *
        have hy0 := (HW.out.cell (World.block_lt_of_cell? w _ hx0)).trans hx0
        have hy1 := (HW.out.cell (World.block_lt_of_cell? w _ hx1)).trans hx1
        unfold GV.Print.go at hE
        obtain ⟨⟨s1, e1⟩, hf, hE2⟩ := Option.bind_eq_some_iff.mp hE
        simp only at hE2
        have Hf := Lib.hid hf
        have HBX := Aside0.mk (show (wr.alloc (.cells #[.string x.f0, .string x.f1] 76)).heap[wr.heap.size]? = some (.cells #[.string x.f0, .string x.f1] 76 (0, 0)) by simpa using heap_alloc_new wr (.cells #[.string x.f0, .string x.f1] 76))
        have HWa := Aside0.mk (HW.out.alloc HW.out.size (.cells #[.string x.f0, .string x.f1] 76))
        subst hA
        clear hx0 hx1 hget hdk hE hf
        by_cases hz : e1 = 0
        · rw [if_pos hz] at hE2
          subst hz
          split at hE2
          · rename_i hss
            have HE2 := Aside0.mk hE2
            clear hE2
            go_wp2_with fail
            refine (GV.Fold.calls k x.f0 x.f1 s1 0 _ Hf.out).mono ?_
            rintro e w2 ⟨rfl, hb2⟩
            have HBl2 := Aside0.mk (IsBuilder_below (IsBuilder_below HBl.out ((Below.refl _ _).alloc (Nat.le_refl _) (.cells #[.string x.f0, .string x.f1] 76))) hb2)
            have HW2 := Aside0.mk (HWa.out.trans (hb2.mono HWa.out.size))
            have hcells : Lib.byteCells out ++ Lib.strCells s1 = Lib.byteCells (out ++ s1.data.toList) := by rw [str_mk, ← Lib.byteCells_append]
            have Hcells := Lib.hid hcells
            have hsl : s1.data.toList.length = s1.size := by simp
            have Hsl := Lib.hid hsl
            clear hb2 hcells hsl
            go_wp2_with fail
            refine (writeString2 w.heap.size w.heap.size _ s1 _ HBl2.out (by rw [Lib.byteCells_length]; have := HS.out; omega) HW2.out.size).mono ?_
            rintro e w3 ⟨rfl, hb3, hw3, _⟩
            rw [Hcells.out] at hb3
            have HBl3 := Aside0.mk (Or.inr hb3 : Lib.IsBuilder 85 5 w.heap.size w.heap.size (Lib.byteCells (out ++ s1.data.toList)) w3)
            have HW3 := Aside0.mk (HW2.out.trans hw3)
            clear hb3 hw3
            go_wp2
            go_roundw
            case rel => exact ⟨j + 1, out ++ s1.data.toList, by omega, by go_num, HE2, ⟨by rw [List.length_append, Hsl.out]; have := HS.out; omega⟩, HBl3, HW3⟩
            case measure => simp [intOf]; omega
          · cases hE2
        · rw [if_neg hz] at hE2
          injection hE2 with hE2
          injection hE2 with h1 h2
          subst h1 h2
          have hzb : (e1 == 0) = false := beq_eq_false_iff_ne.2 hz
          have hzb2 : (e1 != 0) = true := bne_iff_ne.2 hz
          have Hz := Lib.hid hz
          clear hz
          go_wp2_with fail
          refine (GV.Fold.calls k x.f0 x.f1 s1 e1 _ Hf.out).mono ?_
          rintro e w2 ⟨rfl, hb2⟩
          have HW2 := Aside0.mk (HWa.out.trans (hb2.mono HWa.out.size))
          clear hb2
          go_wp2
          go_ret2
          exact ⟨rfl, HW2.out⟩
      · have hk2 : l0.drop j = [] := List.drop_eq_nil_of_le (by have := Hn.out; omega)
        have hE := HE.out
        rw [hk2] at hE
        unfold GV.Print.go at hE
        have hbl := Lib.byteCells_length out
        by_cases hbig : 65536 < out.length
        · rw [if_pos hbig] at hE
          injection hE with hE
          injection hE with h1 h2
          subst h1 h2
          clear HE
          go_wp2_with fail
          refine (Tryz.Builder_Len w.heap.size w.heap.size _ _ HBl.out).mono ?_
          rintro e w3 ⟨rfl, rfl⟩
          rw [hbl]
          go_wp2
          go_ret2
          exact ⟨rfl, HW.out⟩
        · rw [if_neg hbig] at hE
          injection hE with hE
          injection hE with h1 h2
          subst h2
          have H1 := Lib.hid h1
          clear HE h1
          go_wp2_with fail
          refine (Tryz.Builder_Len w.heap.size w.heap.size _ _ HBl.out).mono ?_
          rintro e w3 ⟨rfl, rfl⟩
          rw [hbl]
          go_wp2_with fail
          refine (Tryz.Builder_String_any w.heap.size w.heap.size _ _ HBl.out HW.out.size).mono ?_
          rintro e w4 ⟨rfl, hw4⟩
          have HW4 := Aside0.mk (HW.out.trans hw4)
          clear hw4
          go_wp2
          go_ret2
          exact ⟨by rw [← H1.out]; rfl, HW4.out⟩

end Go.Proofs.YtfeciafdioepiaaGreatDoor

/- The contract of field.Parse, in the printed form. -/
namespace Go.Proofs.YtfeciafdioepiaaGreatDoor
open Go.RowKit Go.Proofs Go.Proofs.YtfeciafdioepiaaGreatDoorW.PrintWords Go.Proofs.YtfeciafdioepiaaGreatDoor.PA

theorem gm_at {w w1 : World} (h : Gm w) (hb : Below w.heap.size w w1) : Gm w1 := h.below hb (by
  obtain ⟨m, hm⟩ := h
  exact Nat.lt_of_le_of_lt (Nat.zero_le _) (World.block_lt_of_cell? w _ hm))
def GV.Parse.f (s : ByteArray) : Option (List S76 × Int × Int) := if s.size ≤ 140737488351232 then some ((parseP s.data.toList).1.map toS, (parseP s.data.toList).2.1, (parseP s.data.toList).2.2) else none
end Go.Proofs.YtfeciafdioepiaaGreatDoor

/- The contract of known. -/
namespace Go.Proofs.YtfeciafdioepiaaGreatDoor
open Go.RowKit Go.Proofs Go.Proofs.YtfeciafdioepiaaGreatDoorW.PrintWords Go.Proofs.YtfeciafdioepiaaGreatDoor.PA

def GV.known.f : Option Bool := some true
end Go.Proofs.YtfeciafdioepiaaGreatDoor
set_option linter.unusedVariables false
set_option linter.unusedSimpArgs false
namespace Go.Proofs.YtfeciafdioepiaaGreatDoor.GV
open Go.RowKit Go.Proofs Go.Proofs.YtfeciafdioepiaaGreatDoorW.PrintWords Go.Proofs.YtfeciafdioepiaaGreatDoor.PA

def Cut.f (s sep : ByteArray) : Option (ByteArray × ByteArray × Bool) := if sep = ⟨#[10]⟩ ∧ s.size ≤ 140737488355328 then some (mkS (s.data.toList.take (lineN s.data.toList)), mkS (s.data.toList.drop (lineN s.data.toList + 1)), hasNl s.data.toList) else none
theorem Cut.calls (a0 : ByteArray) (a1 : ByteArray) (r1 : ByteArray) (r2 : ByteArray) (r3 : Bool) (w : World) (h : Cut.f a0 a1 = some (r1, r2, r3)) :
    Calls Tryz.prog 41 #[.string a0, .string a1] w fun e w' => e = .returned (.tuple #[.string r1, .string r2, .bool r3]) ∧ Drawn0 w w' := by
  unfold Cut.f at h
  split at h
  · rename_i hh
    obtain ⟨rfl, hs⟩ := hh
    injection h with h
    injection h with h1 h2
    injection h2 with h2 h3
    subst h1 h2 h3
    refine (cut_nl a0 w hs).mono ?_
    rintro e w' ⟨rfl, n, rfl⟩
    exact ⟨rfl, ⟨⟨n, rfl⟩⟩⟩
  · cases h
def badByte.f (s : ByteArray) : Option Int := if s.size ≤ 140737488355328 then some (badU s.data.toList) else none
theorem badByte.calls (a0 : ByteArray) (r : Int) (w : World) (h : badByte.f a0 = some r) :
    Calls Tryz.prog 42 #[.string a0] w fun e w' => e = .returned (.int .i64 r) ∧ Below w.heap.size w w' := by
  unfold badByte.f at h
  split at h
  · injection h with h; subst h; exact badByte_any a0 w (by assumption)
  · cases h
end Go.Proofs.YtfeciafdioepiaaGreatDoor.GV
set_option linter.unusedVariables false
set_option linter.unusedSimpArgs false
namespace Go.Proofs.YtfeciafdioepiaaGreatDoor
open Go.RowKit Go.Shelf Go.Proofs Go.Proofs.YtfeciafdioepiaaGreatDoorW.PrintWords Go.Proofs.YtfeciafdioepiaaGreatDoorW.PrintMore Go.Proofs.YtfeciafdioepiaaGreatDoor.PA

/-- How many quotation marks a line begins with, and what is behind them. -/
def isMark (c : UInt8) : Bool := c == 62
def markN (l : List UInt8) : Nat := spanL isMark l
def restL (l : List UInt8) : List UInt8 := if markN l = 0 then l.drop (markN l) else if (l.drop (markN l)).head? = some 32 then (l.drop (markN l)).drop 1 else l.drop (markN l)

/-! ### The program's Level -/
theorem trimLeft_mark (l : List UInt8) : Lib.trimLeftB l 62 = l.drop (markN l) := by
  unfold Lib.trimLeftB markN
  induction l with
  | nil => rfl
  | cons c l ih =>
    simp only [spanL]
    have e : isMark c = (c == 62) := rfl
    by_cases h : (c == 62) = true
    · rw [List.dropWhile_cons, if_pos h, e, if_pos h, ih]; rfl
    · rw [List.dropWhile_cons, if_neg h, e, if_neg h]; rfl
theorem trimPrefix_space (l : List UInt8) : Lib.trimPrefix l [32] = if l.head? = some 32 then l.drop 1 else l := by
  unfold Lib.trimPrefix Lib.hasPrefix
  cases l with
  | nil => rfl
  | cons c l =>
    by_cases h : c = 32
    · subst h; simp [List.isPrefixOf]
    · have h2 : (32 == c) = false := by rw [beq_eq_false_iff_ne]; exact fun e => h e.symm
      simp [List.isPrefixOf, h2, h]
set_option maxHeartbeats 1000000 in
set_option maxRecDepth 100000 in
theorem level_any (s : ByteArray) (w : World) (hs : s.size ≤ 140737488355328) : Calls Tryz.prog 24 #[.string s] w fun e w' => e = .returned (.tuple #[.int .i64 (markN s.data.toList), .string (mkS (restL s.data.toList))]) ∧ Drawn0 w w' := by
  have hlen : s.data.toList.length = s.size := by simp
  have hle : markN s.data.toList ≤ s.size := by rw [← hlen]; exact spanL_le _ _
  have htl := fun w => Tryz.strings_TrimLeft_one s 62 (by decide) w
  have e1 : (⟨(Lib.trimLeftB s.data.toList 62).toArray⟩ : ByteArray) = mkS (s.data.toList.drop (markN s.data.toList)) := by rw [trimLeft_mark]; rfl
  rw [e1] at htl
  have htp := fun w => Tryz.strings_TrimPrefix (mkS (s.data.toList.drop (markN s.data.toList))) ⟨#[32]⟩ w
  have e2 : (⟨(Lib.trimPrefix (mkS (s.data.toList.drop (markN s.data.toList))).data.toList (⟨#[32]⟩ : ByteArray).data.toList).toArray⟩ : ByteArray) = mkS (if (s.data.toList.drop (markN s.data.toList)).head? = some 32 then (s.data.toList.drop (markN s.data.toList)).drop 1 else s.data.toList.drop (markN s.data.toList)) := by
    rw [mkS_toList, show (⟨#[32]⟩ : ByteArray).data.toList = [32] from rfl, trimPrefix_space]; rfl
  rw [e2] at htp
  have hsz : (mkS (s.data.toList.drop (markN s.data.toList))).size = s.size - markN s.data.toList := by rw [mkS_size, List.length_drop, hlen]
  have hr : restL s.data.toList = if markN s.data.toList = 0 then s.data.toList.drop (markN s.data.toList) else (if (s.data.toList.drop (markN s.data.toList)).head? = some 32 then (s.data.toList.drop (markN s.data.toList)).drop 1 else s.data.toList.drop (markN s.data.toList)) := rfl
  rw [hr]
  generalize (if (s.data.toList.drop (markN s.data.toList)).head? = some 32 then (s.data.toList.drop (markN s.data.toList)).drop 1 else s.data.toList.drop (markN s.data.toList)) = r2 at *
  generalize hn : markN s.data.toList = n at *
  generalize s.data.toList.drop n = r1 at *
  have Htl := Lib.hid htl
  have Htp := Lib.hid htp
  have hsz2 : ((mkS r1).size : Int) = (s.size : Int) - n := by omega
  generalize hq : mkS r1 = q at *
  have Hq := Lib.hid hq
  clear hlen htl htp e1 e2 hr hn hsz hq
  have hw : wrap64 ((s.size : Int) - (q.size : Int)) = (n : Int) := by unfold wrap64; omega
  by_cases h0 : n = 0
  · subst h0
    have hz : (q.size : Int) = s.size := by omega
    have Hz := Lib.hid hz
    clear hz hsz2 hw
    have hqs : q.size = s.size := by have := Hz.out; omega
    go_enter Tryz.func24, Tryz.ntmps24
    go_wp2_with (go_at_call 52; refine (Htl.out _).mono ?_; rintro e w' ⟨rfl, rfl⟩)
    go_ret2
    have hres : mkS r1 = q := Hq.out
    exact ⟨by rw [hres]; rfl, ⟨⟨0, rfl⟩⟩⟩
  · have Hsz2 := Lib.hid hsz2
    clear hsz2
    have hn0 : decide ((n : Int) > 0) = true := decide_eq_true (by omega)
    go_enter Tryz.func24, Tryz.ntmps24
    go_wp2_with (first | (go_at_call 52; refine (Htl.out _).mono ?_; rintro e w' ⟨rfl, rfl⟩) | (go_at_call 53; refine (Htp.out _).mono ?_; rintro e w' ⟨rfl, rfl⟩))
    go_ret2
    exact ⟨rfl, ⟨⟨0, rfl⟩⟩⟩
end Go.Proofs.YtfeciafdioepiaaGreatDoor
namespace Go.Proofs.YtfeciafdioepiaaGreatDoor.GV
open Go.RowKit Go.Proofs Go.Proofs.YtfeciafdioepiaaGreatDoorW.PrintWords Go.Proofs.YtfeciafdioepiaaGreatDoor.PA
end Go.Proofs.YtfeciafdioepiaaGreatDoor.GV
namespace Go.Proofs.YtfeciafdioepiaaGreatDoor.PA
open Go.RowKit Go.Proofs Go.Proofs.YtfeciafdioepiaaGreatDoorW.PrintWords
end Go.Proofs.YtfeciafdioepiaaGreatDoor.PA
