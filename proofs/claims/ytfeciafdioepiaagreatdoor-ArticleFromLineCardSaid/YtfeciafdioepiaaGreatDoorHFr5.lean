/- Article's Parse.; A law for a loop over an iterator, at the wide fence: the iterator says how it m; WriteString in a loop over an iterator: the machine's own objects stay.; The contract of article's Strip over this translation.; The contract of article's Quote over this translation.; The contract of article's Quote over this translation.; The examples of the document: what the law's known computes.; The law's known holds always. -/
import Derived.Test.YtfeciafdioepiaaGreatDoorHFr4
import Derived.Deep.RegionWith
import Derived.RangeFuncFrom
import Derived.RangeFuncCalls
import Derived.Shelf.Abstract
import Derived.Shelf.RegionOpen
import Derived.WalkKit
import Derived.OwnWalkIn
import Derived.TacticsInMore
import Derived.LoopNIn
import Derived.LoopIn
import Derived.Test.YtfeciafdioepiaaGreatDoorHFr3
import Derived.Shelf.Strings.BuilderK
import Derived.Laws.EntriesVeiled
import Derived.Test.YtfeciafdioepiaaGreatDoorHFr0
import Derived.Test.YtfeciafdioepiaaGreatDoorHFr2
set_option linter.unusedVariables false
set_option linter.unusedSimpArgs false
namespace Go.Proofs.YtfeciafdioepiaaGreatDoor
open Go.RowKit Go.Shelf Go.Proofs Go.Proofs.YtfeciafdioepiaaGreatDoorW.PrintWords Go.Proofs.YtfeciafdioepiaaGreatDoorW.PrintMore Go.Proofs.YtfeciafdioepiaaGreatDoor.PA
attribute [local go_sem] Oper.semAt_some

def fldsA (s : ByteArray) : List S76 := (parseP (headA s).1.data.toList).1.map toS
def atA (s : ByteArray) : Int := (parseP (headA s).1.data.toList).2.1
def errA (s : ByteArray) : Int := (parseP (headA s).1.data.toList).2.2
def restA (s : ByteArray) : ByteArray := s.extract ((headA s).1.size + 1) s.size
def GV.AParse.f (k : Nat) (s : ByteArray) : Option (List S76 × ByteArray × Int × Int) :=
  if 65536 < s.size then some ([], ⟨#[]⟩, 65536, 5)
  else if errA s ≠ 0 then some ([], ⟨#[]⟩, atA s, errA s)
  else if (headA s).2 = false then some ([], ⟨#[]⟩, (s.size : Int), 4)
  else (PC.article_CheckBody.f k (restA s)).bind fun x => if x.2 ≠ 0 then some ([], ⟨#[]⟩, wrap64 (((headA s).1.size : Int) + 1 + x.1), x.2) else some (fldsA s, restA s, 0, 0)
theorem headA_len (s : ByteArray) (h : (headA s).2 = true) : (headA s).1.size + 1 ≤ s.size := by
  unfold headA at h ⊢
  split
  · rename_i hp
    have h4 : [10] <+: s.data.toList := List.isPrefixOf_iff_prefix.1 hp
    have := h4.length_le
    simp at this
    show 0 + 1 ≤ s.size
    omega
  · split
    · rename_i h1 h2
      have := index2_lt _ h2
      simp at this ⊢
      omega
    · rename_i h1 h2
      simp [h1, h2] at h

/-- Where the parser stands ahead of a step. -/
def AtStep (k : Nat) (s : ByteArray) (g n : Nat) (wr : World) : Nat → Prop
  | 0 => Art g s ⟨#[]⟩ false (.slice none 0 0) ⟨#[]⟩ wr
  | 1 => s.size ≤ 65536 ∧ Art g s ⟨#[]⟩ false (.slice none 0 0) ⟨#[]⟩ wr
  | 2 => s.size ≤ 65536 ∧ errA s = 0 ∧ ∃ v, Art g s (headA s).1 (headA s).2 v ⟨#[]⟩ wr ∧ Kd.R k76 76 wr n (fun _ => True) v (fldsA s)
  | 3 => s.size ≤ 65536 ∧ errA s = 0 ∧ (headA s).2 = true ∧ ∃ v, Art g s (headA s).1 true v ⟨#[]⟩ wr ∧ Kd.R k76 76 wr n (fun _ => True) v (fldsA s)
  | 4 => s.size ≤ 65536 ∧ errA s = 0 ∧ (headA s).2 = true ∧ (∃ a, PC.article_CheckBody.f k (restA s) = some (a, 0)) ∧ ∃ v, Art g s (headA s).1 true v (restA s) wr ∧ Kd.R k76 76 wr n (fun _ => True) v (fldsA s)
  | _ => False

/-- A step of the parser: it fails, and the answer is known, or it goes on. -/
theorem step_any (k : Nat) (s : ByteArray) (g n : Nat) (wr : World) (j : Nat) (r : List S76 × ByteArray × Int × Int) (hB : n ≤ g) (h0 : 0 < n) (hgm : Gm wr) (hf : GV.AParse.f k s = some r) (hj : j < 4) (h : AtStep k s g n wr j) :
    (∃ a c, c ≠ 0 ∧ r = ([], ⟨#[]⟩, a, c) ∧ Calls Tryz.prog (33 + j) #[.pointer (some ⟨g, 0, none⟩)] wr fun e w' => e = .returned (failV a c) ∧ Below n wr w' ∧ KeepBut wr w' g none) ∨
    (∃ a, Calls Tryz.prog (33 + j) #[.pointer (some ⟨g, 0, none⟩)] wr fun e w' => e = .returned (failV a 0) ∧ AtStep k s g n w' (j + 1) ∧ Below n wr w' ∧ KeepBut wr w' g none) := by
  have hkeep : ∀ {w' : World}, Below wr.heap.size wr w' → KeepBut wr w' g none := fun hb => keep_below (KeepBut.refl wr g none) hb
  have hnle : n ≤ wr.heap.size := by
    have : g < wr.heap.size := by
      match j, h with
      | 0, h => exact blk_lt h
      | 1, h => exact blk_lt h.2
      | 2, h => obtain ⟨_, _, v, ha, _⟩ := h; exact blk_lt ha
      | 3, h => obtain ⟨_, _, _, v, ha, _⟩ := h; exact blk_lt ha
    omega
  unfold GV.AParse.f at hf
  match j, hj, h with
  | 0, _, h =>
    have hL := length_any _ _ _ _ _ _ _ h
    by_cases hz : 65536 < s.size
    · rw [if_pos hz] at hf hL
      refine .inl ⟨65536, 5, by decide, by simpa using hf.symm, hL.mono ?_⟩
      rintro e w' ⟨he, hb⟩
      exact ⟨he, hb.mono hnle, hkeep hb⟩
    · rw [if_neg hz] at hL
      refine .inr ⟨0, hL.mono ?_⟩
      rintro e w' ⟨he, hb⟩
      exact ⟨he, ⟨by omega, blk_below h hb⟩, hb.mono hnle, hkeep hb⟩
  | 1, _, h =>
    obtain ⟨hz, ha⟩ := h
    rw [if_neg (by omega)] at hf
    have hH := aheader_any n g s ⟨#[]⟩ _ wr hB h0 hgm hz ha
    by_cases he : errA s = 0
    · refine .inr ⟨atA s, hH.mono ?_⟩
      rintro e w' ⟨v', hr, hA, hR, hb, hk⟩
      refine ⟨?_, ⟨hz, he, v', hA, hR⟩, hb, hk⟩
      rw [hr]; show Ending.returned (failV (atA s) (errA s)) = _; rw [he]
    · rw [if_pos he] at hf
      refine .inl ⟨atA s, errA s, he, by simpa using hf.symm, hH.mono ?_⟩
      rintro e w' ⟨v', hr, hA, hR, hb, hk⟩
      exact ⟨hr, hb, hk⟩
  | 2, _, h =>
    obtain ⟨hz, he, v, ha, hR⟩ := h
    rw [if_neg (by omega), if_neg (by simp [he])] at hf
    have hS := separation_any _ _ _ _ _ _ _ ha
    by_cases hfd : (headA s).2 = true
    · rw [if_pos hfd] at hS
      refine .inr ⟨0, hS.mono ?_⟩
      rintro e w' ⟨hr, hb⟩
      refine ⟨hr, ⟨hz, he, hfd, v, ?_, Kd.R_below hR hb⟩, hb.mono hnle, hkeep hb⟩
      rw [hfd] at ha
      exact blk_below ha hb
    · rw [if_neg hfd] at hS
      rw [if_pos (Bool.eq_false_iff.2 hfd)] at hf
      refine .inl ⟨(s.size : Int), 4, by decide, by simpa using hf.symm, hS.mono ?_⟩
      rintro e w' ⟨hr, hb⟩
      exact ⟨hr, hb.mono hnle, hkeep hb⟩
  | 3, _, h =>
    obtain ⟨hz, he, hfd, v, ha, hR⟩ := h
    rw [if_neg (by omega), if_neg (by simp [he]), if_neg (by simp [hfd])] at hf
    have hlen := headA_len s hfd
    cases hc : PC.article_CheckBody.f k (restA s) with
    | none => rw [hc] at hf; simp at hf
    | some x =>
      obtain ⟨a, c⟩ := x
      rw [hc] at hf
      have hB' := abody_any n g s (headA s).1 ⟨#[]⟩ v wr (fldsA s) hB h0 hz hlen ha hR k a c hc
      simp only [Option.bind_some] at hf
      by_cases hc0 : c = 0
      · subst hc0
        refine .inr ⟨wrap64 (((headA s).1.size : Int) + 1 + a), hB'.mono ?_⟩
        rintro e w' ⟨hr, hA, hR', hb, hk⟩
        exact ⟨hr, ⟨hz, he, hfd, ⟨a, hc⟩, v, hA, hR'⟩, hb, hk⟩
      · rw [if_pos hc0] at hf
        refine .inl ⟨_, c, hc0, by simpa using hf.symm, hB'.mono ?_⟩
        rintro e w' ⟨hr, hA, hR', hb, hk⟩
        exact ⟨hr, hb, hk⟩

theorem AtStep.below {k : Nat} {s : ByteArray} {g n : Nat} {w w' : World} {j : Nat} (h : AtStep k s g n w j) (hb : Below w.heap.size w w') : AtStep k s g n w' j := by
  match j, h with
  | 0, h => exact blk_below h hb
  | 1, h => exact ⟨h.1, blk_below h.2 hb⟩
  | 2, ⟨h1, h2, v, ha, hr⟩ => exact ⟨h1, h2, v, blk_below ha hb, Kd.R_below hr hb⟩
  | 3, ⟨h1, h2, h3, v, ha, hr⟩ => exact ⟨h1, h2, h3, v, blk_below ha hb, Kd.R_below hr hb⟩
  | 4, ⟨h1, h2, h3, h4, v, ha, hr⟩ => exact ⟨h1, h2, h3, h4, v, blk_below ha hb, Kd.R_below hr hb⟩
theorem blk_at2 (w : World) (o o1 : Obj) : ((w.alloc o).alloc o1).heap[w.heap.size + 1]? = some o1 := heap_alloc2_new w o o1
theorem blk_at3 (w : World) (o o1 o2 : Obj) : (((w.alloc o).alloc o1).alloc o2).heap[w.heap.size + 1 + 1]? = some o2 := by
  have := heap_alloc2_new (w.alloc o) o1 o2
  simpa using this
set_option maxHeartbeats 8000000 in
theorem GV.AParse.calls (k : Nat) (s : ByteArray) (r1 : List S76) (r2 : ByteArray) (r3 r4 : Int) (w : World) (hgm : Gm w) (h : GV.AParse.f k s = some (r1, r2, r3, r4)) :
    Calls Tryz.prog 12 #[.string s] w fun e w' => ∃ v0 : Value, e = .returned (.tuple #[.agg #[v0, .string r2], .int .i64 r3, .int .i64 r4]) ∧ Kd.R k76 76 w' w.heap.size (fun _ => True) v0 r1 ∧ Below w.heap.size w w' := by
  have H := Lib.hid h
  have HG := Aside0.mk hgm
  have h0 : 0 < w.heap.size := by
    obtain ⟨m, hm⟩ := hgm
    exact Nat.lt_of_le_of_lt (Nat.zero_le _) (World.block_lt_of_cell? w _ hm)
  clear h hgm
  go_enter Tryz.func12, Tryz.ntmps12
  go_wp2
  go_loopg [22] 5 (fun kq v22 wr => ∃ j : Nat, v22 = .int .i64 (j : Int) ∧ Aside0 (AtStep k s (w.heap.size + 1) w.heap.size wr j) ∧ Aside0 (wr.heap[w.heap.size]? = some (.cells #[.slice none 0 0, .string ⟨#[]⟩] 25 (0, 0))) ∧
    Aside0 (wr.heap[w.heap.size + 1 + 1]? = some (.cells #[.func (.func 33) #[.pointer (some ⟨w.heap.size + 1, 0, none⟩)] #[], .func (.func 34) #[.pointer (some ⟨w.heap.size + 1, 0, none⟩)] #[],
      .func (.func 35) #[.pointer (some ⟨w.heap.size + 1, 0, none⟩)] #[], .func (.func 36) #[.pointer (some ⟨w.heap.size + 1, 0, none⟩)] #[]] 68 (0, 0))) ∧ Aside0 (Below w.heap.size w wr) ∧ Aside0 (j + kq = 5))
  case atStart =>
    exact ⟨0, rfl, ⟨blk_alloc (blk_at2 w _ _) _⟩, ⟨blk_alloc (blk_alloc (blk_new w _) _) _⟩, ⟨blk_at3 w _ _ _⟩, ⟨below_alloc (below_alloc (below_alloc (Below.refl _ _) _) _) _⟩, ⟨rfl⟩⟩
  case round =>
    obtain ⟨j, rfl, HS, HR, HF, HW, HJ⟩ := hrel
    have hn1 : w.heap.size < wr.heap.size := blk_lt HR.out
    have hn2 : w.heap.size + 1 + 1 < wr.heap.size := blk_lt HF.out
    have hgw : Gm wr := HG.out.below HW.out h0
    match j, HS, HJ with
    | 0, HS, HJ =>
      obtain ⟨gk, rfl⟩ : ∃ m, gk = m + 1 := ⟨gk - 1, by have := HJ.out; omega⟩
      have hcf : wr.cell? ⟨w.heap.size + 1 + 1, 0, none⟩ = some (.func (.func 33) #[.pointer (some ⟨w.heap.size + 1, 0, none⟩)] #[]) := (blk_cell HF.out 0).trans rfl
      rcases step_any k s (w.heap.size + 1) w.heap.size wr 0 _ (Nat.le_succ _) h0 hgw H.out (by decide) HS.out with ⟨a, c, hc, hres, hL⟩ | ⟨a, hL⟩
      · have HL := Lib.hid hL
        obtain ⟨rfl, rfl, rfl, rfl⟩ : r1 = [] ∧ r2 = ⟨#[]⟩ ∧ r3 = a ∧ r4 = c := by simpa using hres
        have hcb : (r4 != 0) = true := bne_iff_ne.2 hc
        clear hL hc hgw
        go_wp2_with (go_at_call 33; refine HL.out.mono ?_; rintro e w5 ⟨rfl, hb5, hk5⟩; unfold failV; have hr5 := (hk5.2 _ hn1 (by omega) (by simp)).trans HR.out; have hf5 := (hk5.2 _ hn2 (by omega) (by simp)).trans HF.out; have hcn0 : w5.cell? ⟨w.heap.size, 0, none⟩ = some (.slice none 0 0) := (blk_cell hr5 0).trans rfl; have hcn1 : w5.cell? ⟨w.heap.size, 1, none⟩ = some (.string ⟨#[]⟩) := (blk_cell hr5 1).trans rfl; have hfn0 := blk_frozen hr5 0; have hfn1 := blk_frozen hr5 1; have hlt5 := blk_lt hr5; have HR5 := Aside0.mk hr5; have HF5 := Aside0.mk hf5; have HB5 := Aside0.mk (HW.out.trans hb5); clear hb5 hr5 hf5 hk5)
        go_region_with (fail)
        all_goals (
          go_wp2
          refine bodyPost_ret (results_ctt rfl _ _ _ 25 #[.slice none 0 0, .string ⟨#[]⟩] (0, 0) _ rfl (by repeat (first | assumption | exact (Aside0.out (by assumption)) | refine blk_drewN ?_ _ | refine blk_drew ?_ | refine blk_alloc ?_ _ | refine blk_put (cs := #[.slice none 0 0, .string ⟨#[]⟩]) ?_ _ _ rfl)) Tryz.underlying25 rfl (by kernel_rfl)) rfl ?_
          exact ⟨.slice none 0 0, rfl, Kd.R_nil _ _ _ _ _, by repeat (first | exact (Aside0.out (by assumption)) | apply below_alloc | apply pw_below_drewN | apply below_drew1 | refine below_set ?_ (Nat.le_refl _))⟩)
      · have HL := Lib.hid hL
        clear hL hgw
        go_wp2_with (go_at_call 33; refine HL.out.mono ?_; rintro e w5 ⟨rfl, hs5, hb5, hk5⟩; unfold failV; have HS5 := Aside0.mk hs5; clear hs5; have hr5 := (hk5.2 _ hn1 (by omega) (by simp)).trans HR.out; have hf5 := (hk5.2 _ hn2 (by omega) (by simp)).trans HF.out; have hcn0 : w5.cell? ⟨w.heap.size, 0, none⟩ = some (.slice none 0 0) := (blk_cell hr5 0).trans rfl; have hcn1 : w5.cell? ⟨w.heap.size, 1, none⟩ = some (.string ⟨#[]⟩) := (blk_cell hr5 1).trans rfl; have hfn0 := blk_frozen hr5 0; have hfn1 := blk_frozen hr5 1; have hlt5 := blk_lt hr5; have HR5 := Aside0.mk hr5; have HF5 := Aside0.mk hf5; have HB5 := Aside0.mk (HW.out.trans hb5); clear hb5 hr5 hf5 hk5)
        go_roundg gk
        case measure => omega
        case rel => exact ⟨1, rfl, ⟨HS5.out.below ((Below.refl _ _).alloc (Nat.le_refl _) _)⟩, ⟨blk_alloc HR5.out _⟩, ⟨blk_alloc HF5.out _⟩, ⟨below_alloc HB5.out _⟩, ⟨by have := HJ.out; omega⟩⟩
    | 1, HS, HJ =>
      obtain ⟨gk, rfl⟩ : ∃ m, gk = m + 1 := ⟨gk - 1, by have := HJ.out; omega⟩
      have hcf : wr.cell? ⟨w.heap.size + 1 + 1, 1, none⟩ = some (.func (.func 34) #[.pointer (some ⟨w.heap.size + 1, 0, none⟩)] #[]) := (blk_cell HF.out 1).trans rfl
      rcases step_any k s (w.heap.size + 1) w.heap.size wr 1 _ (Nat.le_succ _) h0 hgw H.out (by decide) HS.out with ⟨a, c, hc, hres, hL⟩ | ⟨a, hL⟩
      · have HL := Lib.hid hL
        obtain ⟨rfl, rfl, rfl, rfl⟩ : r1 = [] ∧ r2 = ⟨#[]⟩ ∧ r3 = a ∧ r4 = c := by simpa using hres
        have hcb : (r4 != 0) = true := bne_iff_ne.2 hc
        clear hL hc hgw
        go_wp2_with (go_at_call 34; refine HL.out.mono ?_; rintro e w5 ⟨rfl, hb5, hk5⟩; unfold failV; have hr5 := (hk5.2 _ hn1 (by omega) (by simp)).trans HR.out; have hf5 := (hk5.2 _ hn2 (by omega) (by simp)).trans HF.out; have hcn0 : w5.cell? ⟨w.heap.size, 0, none⟩ = some (.slice none 0 0) := (blk_cell hr5 0).trans rfl; have hcn1 : w5.cell? ⟨w.heap.size, 1, none⟩ = some (.string ⟨#[]⟩) := (blk_cell hr5 1).trans rfl; have hfn0 := blk_frozen hr5 0; have hfn1 := blk_frozen hr5 1; have hlt5 := blk_lt hr5; have HR5 := Aside0.mk hr5; have HF5 := Aside0.mk hf5; have HB5 := Aside0.mk (HW.out.trans hb5); clear hb5 hr5 hf5 hk5)
        go_region_with (fail)
        all_goals (
          go_wp2
          refine bodyPost_ret (results_ctt rfl _ _ _ 25 #[.slice none 0 0, .string ⟨#[]⟩] (0, 0) _ rfl (by repeat (first | assumption | exact (Aside0.out (by assumption)) | refine blk_drewN ?_ _ | refine blk_drew ?_ | refine blk_alloc ?_ _ | refine blk_put (cs := #[.slice none 0 0, .string ⟨#[]⟩]) ?_ _ _ rfl)) Tryz.underlying25 rfl (by kernel_rfl)) rfl ?_
          exact ⟨.slice none 0 0, rfl, Kd.R_nil _ _ _ _ _, by repeat (first | exact (Aside0.out (by assumption)) | apply below_alloc | apply pw_below_drewN | apply below_drew1 | refine below_set ?_ (Nat.le_refl _))⟩)
      · have HL := Lib.hid hL
        clear hL hgw
        go_wp2_with (go_at_call 34; refine HL.out.mono ?_; rintro e w5 ⟨rfl, hs5, hb5, hk5⟩; unfold failV; have HS5 := Aside0.mk hs5; clear hs5; have hr5 := (hk5.2 _ hn1 (by omega) (by simp)).trans HR.out; have hf5 := (hk5.2 _ hn2 (by omega) (by simp)).trans HF.out; have hcn0 : w5.cell? ⟨w.heap.size, 0, none⟩ = some (.slice none 0 0) := (blk_cell hr5 0).trans rfl; have hcn1 : w5.cell? ⟨w.heap.size, 1, none⟩ = some (.string ⟨#[]⟩) := (blk_cell hr5 1).trans rfl; have hfn0 := blk_frozen hr5 0; have hfn1 := blk_frozen hr5 1; have hlt5 := blk_lt hr5; have HR5 := Aside0.mk hr5; have HF5 := Aside0.mk hf5; have HB5 := Aside0.mk (HW.out.trans hb5); clear hb5 hr5 hf5 hk5)
        go_roundg gk
        case measure => omega
        case rel => exact ⟨2, rfl, ⟨HS5.out.below ((Below.refl _ _).alloc (Nat.le_refl _) _)⟩, ⟨blk_alloc HR5.out _⟩, ⟨blk_alloc HF5.out _⟩, ⟨below_alloc HB5.out _⟩, ⟨by have := HJ.out; omega⟩⟩
    | 2, HS, HJ =>
      obtain ⟨gk, rfl⟩ : ∃ m, gk = m + 1 := ⟨gk - 1, by have := HJ.out; omega⟩
      have hcf : wr.cell? ⟨w.heap.size + 1 + 1, 2, none⟩ = some (.func (.func 35) #[.pointer (some ⟨w.heap.size + 1, 0, none⟩)] #[]) := (blk_cell HF.out 2).trans rfl
      rcases step_any k s (w.heap.size + 1) w.heap.size wr 2 _ (Nat.le_succ _) h0 hgw H.out (by decide) HS.out with ⟨a, c, hc, hres, hL⟩ | ⟨a, hL⟩
      · have HL := Lib.hid hL
        obtain ⟨rfl, rfl, rfl, rfl⟩ : r1 = [] ∧ r2 = ⟨#[]⟩ ∧ r3 = a ∧ r4 = c := by simpa using hres
        have hcb : (r4 != 0) = true := bne_iff_ne.2 hc
        clear hL hc hgw
        go_wp2_with (go_at_call 35; refine HL.out.mono ?_; rintro e w5 ⟨rfl, hb5, hk5⟩; unfold failV; have hr5 := (hk5.2 _ hn1 (by omega) (by simp)).trans HR.out; have hf5 := (hk5.2 _ hn2 (by omega) (by simp)).trans HF.out; have hcn0 : w5.cell? ⟨w.heap.size, 0, none⟩ = some (.slice none 0 0) := (blk_cell hr5 0).trans rfl; have hcn1 : w5.cell? ⟨w.heap.size, 1, none⟩ = some (.string ⟨#[]⟩) := (blk_cell hr5 1).trans rfl; have hfn0 := blk_frozen hr5 0; have hfn1 := blk_frozen hr5 1; have hlt5 := blk_lt hr5; have HR5 := Aside0.mk hr5; have HF5 := Aside0.mk hf5; have HB5 := Aside0.mk (HW.out.trans hb5); clear hb5 hr5 hf5 hk5)
        go_region_with (fail)
        all_goals (
          go_wp2
          refine bodyPost_ret (results_ctt rfl _ _ _ 25 #[.slice none 0 0, .string ⟨#[]⟩] (0, 0) _ rfl (by repeat (first | assumption | exact (Aside0.out (by assumption)) | refine blk_drewN ?_ _ | refine blk_drew ?_ | refine blk_alloc ?_ _ | refine blk_put (cs := #[.slice none 0 0, .string ⟨#[]⟩]) ?_ _ _ rfl)) Tryz.underlying25 rfl (by kernel_rfl)) rfl ?_
          exact ⟨.slice none 0 0, rfl, Kd.R_nil _ _ _ _ _, by repeat (first | exact (Aside0.out (by assumption)) | apply below_alloc | apply pw_below_drewN | apply below_drew1 | refine below_set ?_ (Nat.le_refl _))⟩)
      · have HL := Lib.hid hL
        clear hL hgw
        go_wp2_with (go_at_call 35; refine HL.out.mono ?_; rintro e w5 ⟨rfl, hs5, hb5, hk5⟩; unfold failV; have HS5 := Aside0.mk hs5; clear hs5; have hr5 := (hk5.2 _ hn1 (by omega) (by simp)).trans HR.out; have hf5 := (hk5.2 _ hn2 (by omega) (by simp)).trans HF.out; have hcn0 : w5.cell? ⟨w.heap.size, 0, none⟩ = some (.slice none 0 0) := (blk_cell hr5 0).trans rfl; have hcn1 : w5.cell? ⟨w.heap.size, 1, none⟩ = some (.string ⟨#[]⟩) := (blk_cell hr5 1).trans rfl; have hfn0 := blk_frozen hr5 0; have hfn1 := blk_frozen hr5 1; have hlt5 := blk_lt hr5; have HR5 := Aside0.mk hr5; have HF5 := Aside0.mk hf5; have HB5 := Aside0.mk (HW.out.trans hb5); clear hb5 hr5 hf5 hk5)
        go_roundg gk
        case measure => omega
        case rel => exact ⟨3, rfl, ⟨HS5.out.below ((Below.refl _ _).alloc (Nat.le_refl _) _)⟩, ⟨blk_alloc HR5.out _⟩, ⟨blk_alloc HF5.out _⟩, ⟨below_alloc HB5.out _⟩, ⟨by have := HJ.out; omega⟩⟩
    | 3, HS, HJ =>
      obtain ⟨gk, rfl⟩ : ∃ m, gk = m + 1 := ⟨gk - 1, by have := HJ.out; omega⟩
      have hcf : wr.cell? ⟨w.heap.size + 1 + 1, 3, none⟩ = some (.func (.func 36) #[.pointer (some ⟨w.heap.size + 1, 0, none⟩)] #[]) := (blk_cell HF.out 3).trans rfl
      rcases step_any k s (w.heap.size + 1) w.heap.size wr 3 _ (Nat.le_succ _) h0 hgw H.out (by decide) HS.out with ⟨a, c, hc, hres, hL⟩ | ⟨a, hL⟩
      · have HL := Lib.hid hL
        obtain ⟨rfl, rfl, rfl, rfl⟩ : r1 = [] ∧ r2 = ⟨#[]⟩ ∧ r3 = a ∧ r4 = c := by simpa using hres
        have hcb : (r4 != 0) = true := bne_iff_ne.2 hc
        clear hL hc hgw
        go_wp2_with (go_at_call 36; refine HL.out.mono ?_; rintro e w5 ⟨rfl, hb5, hk5⟩; unfold failV; have hr5 := (hk5.2 _ hn1 (by omega) (by simp)).trans HR.out; have hf5 := (hk5.2 _ hn2 (by omega) (by simp)).trans HF.out; have hcn0 : w5.cell? ⟨w.heap.size, 0, none⟩ = some (.slice none 0 0) := (blk_cell hr5 0).trans rfl; have hcn1 : w5.cell? ⟨w.heap.size, 1, none⟩ = some (.string ⟨#[]⟩) := (blk_cell hr5 1).trans rfl; have hfn0 := blk_frozen hr5 0; have hfn1 := blk_frozen hr5 1; have hlt5 := blk_lt hr5; have HR5 := Aside0.mk hr5; have HF5 := Aside0.mk hf5; have HB5 := Aside0.mk (HW.out.trans hb5); clear hb5 hr5 hf5 hk5)
        go_region_with (fail)
        all_goals (
          go_wp2
          refine bodyPost_ret (results_ctt rfl _ _ _ 25 #[.slice none 0 0, .string ⟨#[]⟩] (0, 0) _ rfl (by repeat (first | assumption | exact (Aside0.out (by assumption)) | refine blk_drewN ?_ _ | refine blk_drew ?_ | refine blk_alloc ?_ _ | refine blk_put (cs := #[.slice none 0 0, .string ⟨#[]⟩]) ?_ _ _ rfl)) Tryz.underlying25 rfl (by kernel_rfl)) rfl ?_
          exact ⟨.slice none 0 0, rfl, Kd.R_nil _ _ _ _ _, by repeat (first | exact (Aside0.out (by assumption)) | apply below_alloc | apply pw_below_drewN | apply below_drew1 | refine below_set ?_ (Nat.le_refl _))⟩)
      · have HL := Lib.hid hL
        clear hL hgw
        go_wp2_with (go_at_call 36; refine HL.out.mono ?_; rintro e w5 ⟨rfl, hs5, hb5, hk5⟩; unfold failV; have HS5 := Aside0.mk hs5; clear hs5; have hr5 := (hk5.2 _ hn1 (by omega) (by simp)).trans HR.out; have hf5 := (hk5.2 _ hn2 (by omega) (by simp)).trans HF.out; have hcn0 : w5.cell? ⟨w.heap.size, 0, none⟩ = some (.slice none 0 0) := (blk_cell hr5 0).trans rfl; have hcn1 : w5.cell? ⟨w.heap.size, 1, none⟩ = some (.string ⟨#[]⟩) := (blk_cell hr5 1).trans rfl; have hfn0 := blk_frozen hr5 0; have hfn1 := blk_frozen hr5 1; have hlt5 := blk_lt hr5; have HR5 := Aside0.mk hr5; have HF5 := Aside0.mk hf5; have HB5 := Aside0.mk (HW.out.trans hb5); clear hb5 hr5 hf5 hk5)
        go_roundg gk
        case measure => omega
        case rel => exact ⟨4, rfl, ⟨HS5.out.below ((Below.refl _ _).alloc (Nat.le_refl _) _)⟩, ⟨blk_alloc HR5.out _⟩, ⟨blk_alloc HF5.out _⟩, ⟨below_alloc HB5.out _⟩, ⟨by have := HJ.out; omega⟩⟩
    | 4, HS, HJ =>
      obtain ⟨gk, rfl⟩ : ∃ m, gk = m + 1 := ⟨gk - 1, by have := HJ.out; omega⟩
      obtain ⟨hz, he, hfd, ⟨a, hcb⟩, v, ha, hR⟩ := HS.out
      have hres : r1 = fldsA s ∧ r2 = restA s ∧ r3 = 0 ∧ r4 = 0 := by
        have hf := H.out
        unfold GV.AParse.f at hf
        rw [if_neg (by omega), if_neg (by simp [he]), if_neg (by simp [hfd]), hcb] at hf
        simp at hf
        obtain ⟨h1, h2, h3, h4⟩ := hf
        exact ⟨h1.symm, h2.symm, h3.symm, h4.symm⟩
      obtain ⟨rfl, rfl, rfl, rfl⟩ := hres
      have hcn0 : wr.cell? ⟨w.heap.size, 0, none⟩ = some (.slice none 0 0) := (blk_cell HR.out 0).trans rfl
      have hcn1 : wr.cell? ⟨w.heap.size, 1, none⟩ = some (.string ⟨#[]⟩) := (blk_cell HR.out 1).trans rfl
      have hcg3 : wr.cell? ⟨w.heap.size + 1, 3, none⟩ = some v := (blk_cell ha 3).trans rfl
      have hcg4 : wr.cell? ⟨w.heap.size + 1, 4, none⟩ = some (.string (restA s)) := (blk_cell ha 4).trans rfl
      have hfn0 := blk_frozen HR.out 0
      have hfn1 := blk_frozen HR.out 1
      obtain ⟨A5, c5, e5⟩ := Kd.R_slice hR
      subst e5
      have HA := Aside0.mk ha
      have HR0 := Aside0.mk hR
      clear ha hR hcb hgw hz he hfd
      go_wp2
      refine bodyPost_ret (results_ctt rfl _ _ _ 25 #[.slice A5 _ c5, .string (restA s)] (0, 0) _ rfl (blk_put (blk_put HR.out 0 _ rfl) 1 _ rfl) Tryz.underlying25 rfl (by kernel_rfl)) rfl ?_
      exact ⟨_, rfl, Kd.R_set (Kd.R_set HR0.out HR.out (by decide) 0 _) (blk_set HR.out 0 _) (by decide) 1 _, below_set (below_set HW.out (Nat.le_refl _)) (Nat.le_refl _)⟩
    | j + 5, HS, HJ => exact HS.out.elim

end Go.Proofs.YtfeciafdioepiaaGreatDoor
set_option linter.unusedVariables false
set_option linter.unusedSimpArgs false
namespace Go.Proofs.YtfeciafdioepiaaGreatDoor
open Go.RowKit Go.Shelf Go.Proofs

theorem range_law2 {α : Type} {n : Nat} {P : Program} {g : Operand} {ps : Array Tmp} {assign body : Code} {Q : Exit → Act → World → Prop} {a : Act} {w : World}
    {gf : Nat} {lb : Array Value} (hg : a.eval g = .func (.func gf) #[] lb) (eg : ∀ args w, (callFunc gf args).run P w = .ok (.enter gf args) w)
    {encs : α → Array Value} {In : World → Prop} {Mv : World → World → Prop} {Rd : World → Prop} {S Sp : List α → Prop} {Lt : List α → α → Prop} (hseq : Iter P gf lb encs In Mv Rd S Sp Lt)
    (hMv : ∀ W W', Mv W W' → KeepsOthers W W') (hps : ∀ x, (encs x).size = ps.size)
    (I : List α → World → Prop) (Ix : Code → List α → World → Prop) (hIm : ∀ pre W W', I pre W → Mv W W' → I pre W') (hIr : ∀ pre W, I pre W → Rd W)
    (hIp : ∀ pre W l o, w.heap.size ≤ l → (∃ o0, W.heap[l]? = some o0 ∧ o0.isCells = false) → I pre W → I pre (W.putObj l o)) (hIxp : ∀ c pre W l o, w.heap.size ≤ l → (∃ o0, W.heap[l]? = some o0 ∧ o0.isCells = false) → Ix c pre W → Ix c pre (W.putObj l o))
    (h0 : ∀ o o', I [] ((w.alloc o).alloc o')) (hin : ∀ o o', In ((w.alloc o).alloc o')) (a₁ : α → Act)
    (hassign : ∀ (l : Nat) (x : α) (W : World) (K : Act → World → Prop), K (a₁ x) W →
      assign.wpIn (Fence.wide.inRound l) (n - 1 - 1) P (Exit.then K (fun _ _ _ => False)) { tmps := (ps.zip (encs x)).foldl (fun t (p, v) => t.setIfInBounds p v) a.tmps, defers := [] } W)
    (hbody : ∀ (l : Nat) (pre : List α) (x : α) (W : World), I pre W → Lt pre x → body.wpIn (Fence.wide.inRound l) (n - 1 - 1) P (roundEnds I Ix (pre ++ [x]) W) (a₁ x) W)
    (hdone : ∀ (D : Nat) (xs : List α) (W : World), w.heap.size ≤ D → S xs → I xs W → W.heap[D]? = some (.deferred (some [])) → Q .normal { a with defers := { target := .collected D, args := #[] } :: a.defers } W)
    (hstop : ∀ (D : Nat) (c : Code) (pre : List α) (W : World), w.heap.size ≤ D → Sp pre → Ix c pre W → W.heap[D]? = some (.deferred (some [])) → c.wpIn Fence.wide n P Q { a with defers := { target := .collected D, args := #[] } :: a.defers } W) :
    (Code.rangeFunc g ps assign body).wpIn Fence.wide n P Q a w := by
  refine wpIn_rangeFunc fun fn hfn => ?_
  generalize hD : w.heap.size = D at *
  let R : LoopState → Option Code → Obj := fun st pe => .loop { state := st, pending := pe, fn, tmps := a.tmps, params := ps, assign, body, defers := D }
  let W1 := (w.alloc (.deferred (some []))).alloc (R .ready none)
  have hL : W1.heap[D + 1]? = some (R .ready none) := by
    have := World.alloc_heap_new (w.alloc (.deferred (some []))) (R .ready none)
    rwa [World.size_alloc, hD] at this
  have hK : W1.heap[D]? = some (.deferred (some [])) := by
    have h1 : (w.alloc (.deferred (some []))).heap[D]? = some (.deferred (some [])) := by rw [← hD]; exact World.alloc_heap_new w _
    exact (Below.heap_alloc _ _ _ (by rw [World.size_alloc, hD]; omega)).trans h1
  -- what the iterator is told to keep, and what holds where a round has stopped it
  let J : List α → World → Prop := fun pre W => I pre W ∧ W.heap[D + 1]? = some (R .ready none) ∧ W.heap[D]? = some (.deferred (some []))
  let Jx : List α → World → Prop := fun pre W => ∃ c, Ix c pre W ∧ W.heap[D + 1]? = some (R .done (some c)) ∧ W.heap[D]? = some (.deferred (some []))
  have hit := hseq (n - 1) (D + 1) J Jx W1
    (fun pre W W' h hm => ⟨hIm _ _ _ h.1 hm, (hMv _ _ hm).same _ _ h.2.1 rfl, (hMv _ _ hm).same _ _ h.2.2 rfl⟩) (fun pre W h => hIr _ _ h.1)
  refine ⟨D + 1, [{ target := .collected D, args := #[] }], W1, { target := .fn (.func gf) lb, args := #[.func (.yield (D + 1)) #[] #[]] }, W1, gf, #[.func (.yield (D + 1)) #[] #[]] ++ lb, W1, ?_, ?_, fun _ _ => trivial, ?_, (fun h => nomatch h), ?_⟩
  · have := run_enterLoop_outer (P := P) (w := w) fn a.tmps ps assign body
    rw [hD] at this
    exact this
  · simp only [resolve, hg]
    simp [go_sem]
  · simp [invoke, go_sem, eg]
  refine (hit ?_ ⟨h0 _ _, hL, hK⟩ (hin _ _)).mono ?_
  · -- a round
    rintro pre x W ⟨hi, hl, hk⟩ hlt
    have hsz : D + 1 < W.heap.size := (Array.getElem?_eq_some_iff.1 hl).1
    refine ⟨fn, _, assign, body, run_yield hl (hps x), roundIn_of_wpIn hfn (hassign _ x W _ ⟨_, run_beginRound hl rfl, ?_⟩)⟩
    have hl2 : (W.putObj (D + 1) (R .busy none)).heap[D + 1]? = some (R .busy none) := World.putObj_heap_same hsz
    have hk2 : (W.putObj (D + 1) (R .busy none)).heap[D]? = some (.deferred (some [])) := (World.putObj_heap_other (by omega)).trans hk
    refine wpIn_mono (hbody _ pre x _ (hIp _ _ _ _ (by omega) ⟨_, hl, rfl⟩ hi) hlt) ?_
    -- the record behind the round, whatever the jump
    have after : ∀ (jump : Option Code) (W3 : World), KeepsOthers (W.putObj (D + 1) (R .busy none)) W3 →
        (Instr.endRound (D + 1) jump).run P W3 = .ok (.bool jump.isNone) (W3.putObj (D + 1) (R (if jump.isNone then .ready else .done) jump)) ∧
        (W3.putObj (D + 1) (R (if jump.isNone then .ready else .done) jump)).heap[D + 1]? = some (R (if jump.isNone then .ready else .done) jump) ∧
        (W3.putObj (D + 1) (R (if jump.isNone then .ready else .done) jump)).heap[D]? = some (.deferred (some [])) := fun jump W3 hk3 =>
      ⟨run_endRound jump (hk3.same _ _ hl2 rfl), World.putObj_heap_same (Array.getElem?_eq_some_iff.1 (hk3.same _ _ hl2 rfl)).1, (World.putObj_heap_other (by omega)).trans (hk3.same _ _ hk2 rfl)⟩
    rintro e a3 W3 hp
    have stops : ∀ c, KeepsOthers (W.putObj (D + 1) (R .busy none)) W3 → Ix c (pre ++ [x]) W3 → ∃ v w', (Instr.endRound (D + 1) (some c)).run P W3 = .ok v w' ∧ ((Ending.returned v = .returned (.bool true) ∧ J (pre ++ [x]) w') ∨ (Ending.returned v = .returned (.bool false) ∧ Jx (pre ++ [x]) w')) := by
      intro c hk3 hx
      obtain ⟨e1, e2, e3⟩ := after (some c) W3 hk3
      exact ⟨_, _, e1, .inr ⟨rfl, c, hIxp _ _ _ _ _ (by omega) ⟨_, hk3.same _ _ hl2 rfl, rfl⟩ hx, e2, e3⟩⟩
    cases e with
    | normal =>
      obtain ⟨hk3, hi3⟩ := hp
      obtain ⟨e1, e2, e3⟩ := after none W3 hk3
      exact ⟨_, _, e1, .inl ⟨rfl, hIp _ _ _ _ (by omega) ⟨_, hk3.same _ _ hl2 rfl, rfl⟩ hi3, e2, e3⟩⟩
    | ret => exact stops _ hp.1 hp.2
    | exit id => exact stops _ hp.1 hp.2
    | goto t => exact stops _ hp.1 hp.2
    | panic ch => exact hp.elim
    | outgrown => exact hp.elim
  · -- behind the iterator
    rintro e W2 ⟨⟨v, rfl⟩, (⟨xs, hS, hi, hl, hk⟩ | ⟨pre, hSp, c, hi, hl, hk⟩)⟩
    · exact ⟨none, _, run_endLoop hl (by simp), hdone _ xs _ (Nat.le_refl _) hS (hIp _ _ _ _ (by omega) ⟨_, hl, rfl⟩ hi) ((World.putObj_heap_other (by omega)).trans hk)⟩
    · exact ⟨some c, _, run_endLoop hl (by simp), hstop _ c pre _ (Nat.le_refl _) hSp (hIxp _ _ _ _ _ (by omega) ⟨_, hl, rfl⟩ hi) ((World.putObj_heap_other (by omega)).trans hk)⟩
end Go.Proofs.YtfeciafdioepiaaGreatDoor
set_option linter.unusedVariables false
set_option linter.unusedSimpArgs false
namespace Go.Proofs.YtfeciafdioepiaaGreatDoor
open Go.RowKit Go.Proofs Go.Proofs.YtfeciafdioepiaaGreatDoorW.PrintWords Go.Proofs.YtfeciafdioepiaaGreatDoor.PA

theorem copyCheck3 (B b : Nat) (bs : List Value) (w : World) (h : Lib.IsBuilder 85 5 B b bs w) :
    Calls Tryz.prog 74 #[.pointer (some ⟨b, 0, none⟩)] w fun e w' => e = .returned (.tuple #[]) ∧ (Lib.BuilderAt 85 5 B b (.pointer (some ⟨b, 0, none⟩)) bs w' ∧ Below B w w' ∧ Sib w w' ∧ KeepsOthers w w') := by
  rcases h with h | h
  · refine (copyCheck_fresh b w h.cell0 h.shape h.frozen0).mono ?_
    rintro e w' ⟨rfl, rfl⟩
    obtain ⟨hB, v, hb, _⟩ := id h
    exact ⟨rfl, h.used _, (Below.refl B w).setCell (p := ⟨b, 0, none⟩) h.1 _, Sib.set_ hb 0 _, KeepsOthers.setCell _ _ _⟩
  · refine (copyCheck_used b w h.cell0).mono ?_
    rintro e w' ⟨rfl, rfl⟩
    exact ⟨rfl, h, Below.refl B _, Sib.refl _, KeepsOthers.refl _⟩

set_option maxHeartbeats 2000000 in
set_option maxRecDepth 100000 in
theorem writeString3 (B b : Nat) (bs : List Value) (s : ByteArray) (w : World) (h : Lib.IsBuilder 85 5 B b bs w) (hlen : bs.length + s.size ≤ 140737488355328) (hBw : B ≤ w.heap.size) :
    Calls Tryz.prog 47 #[.pointer (some ⟨b, 0, none⟩), .string s] w fun e w' => e = .returned (.tuple #[.int .i64 s.size, .nilIface]) ∧ (Lib.BuilderAt 85 5 B b (.pointer (some ⟨b, 0, none⟩)) (bs ++ Lib.strCells s) w' ∧ Below B w w' ∧ Sib w w' ∧ KeepsOthers w w') := by
  obtain ⟨i0, hi, hz0, hz1, hz2⟩ := info_parts infoByte
  go_enter Tryz.func47, Tryz.ntmps47
  go_wp2_with (go_at_call 74; refine (copyCheck3 B b bs _ h).mono ?_)
  rintro e w1 ⟨rfl, h1, hb1, hs1, hko1⟩
  obtain ⟨hB, v, hbk, hown, hne⟩ := h1
  have c0 : w1.cell? ⟨b, 0, none⟩ = some (.pointer (some ⟨b, 0, none⟩)) := by rw [Lib.cell_of_heap hbk]; rfl
  have c1 : w1.cell? ⟨b, 1, none⟩ = some v := by rw [Lib.cell_of_heap hbk]; rfl
  go_wp2_with (at_builtin; refine Lib.wpList_append_own_string _ rfl _ _ 44 9 rfl B 5 i0 Tryz.underlying44 Tryz.underlying9 hi hz0 hz1 hz2 _ _ _ rfl hown s rfl ?c3 ?c4 ?c5 ?_)
  case c3 => unfold maxLen; omega
  case c4 => omega
  case c5 => have := hb1.size; omega
  intro v' w2 hown' hgrow _
  have hlt : b < w1.heap.size := by
    rcases Nat.lt_or_ge b w1.heap.size with h' | h'
    · exact h'
    · simp [Array.getElem?_eq_none h'] at hbk
  have hb2 : w2.heap[b]? = some (.cells #[.pointer (some ⟨b, 0, none⟩), v] 85 (0, 0)) := by
    rw [hgrow.block b hlt (fun e => hne e.symm)]
    exact hbk
  have d0 : w2.cell? ⟨b, 0, none⟩ = some (.pointer (some ⟨b, 0, none⟩)) := by rw [Lib.cell_of_heap hb2]; rfl
  have d1 : w2.cell? ⟨b, 1, none⟩ = some v := by rw [Lib.cell_of_heap hb2]; rfl
  have f1 : w2.frozen? ⟨b, 1, none⟩ = false := Lib.frozen_of_heap hb2 1
  have hs2 : Sib w1 w2 := fun k cs T hk h1 h2 => by
    refine hgrow.block k ?_ ?_
    · rcases Nat.lt_or_ge k w1.heap.size with h' | h'
      · exact h'
      · simp [Array.getElem?_eq_none h'] at hk
    · exact fun e => Lib.ownBlock_ne hown hk h2 e.symm
  have hko2 : KeepsOthers w1 w2 := KeepsOthers.of_grownBy hgrow (fun j o hj ho => by
    rcases hown.2 with ⟨rfl, _⟩ | ⟨g, cap, cur, rfl, _, hg, _⟩
    · simp [Value.ownBlock] at hj
    · simp only [Value.ownBlock, Option.some.injEq] at hj
      subst hj
      rw [hg] at ho
      cases ho; rfl)
  obtain ⟨ao, n', cap, rfl⟩ : ∃ ao n' cap, v' = .slice ao n' cap := by
    rcases hown'.2 with ⟨hv, _⟩ | ⟨g, cap, cur, hv, _⟩
    · exact ⟨_, _, _, hv⟩
    · exact ⟨_, _, _, hv⟩
  go_wp2
  go_ret2
  refine ⟨rfl, ?_, ?_, (hs1.trans hs2).trans (Sib.set_ hb2 1 _), (hko1.trans hko2).trans (KeepsOthers.setCell _ _ _)⟩
  · exact Lib.BuilderAt.put (T := 85) (e := 5) hB hb2 (bs' := bs ++ Lib.strCells s) (by simpa [Lib.strCells_length] using hown') (by decide)
  · exact (hb1.grown hgrow (by have := hb1.size; omega) (fun k hk => (hown.lt k hk).1)).setCell (p := ⟨b, 1, none⟩) hB _

/-- A builder stays where the blocks of its types stay. -/
theorem IsBuilder_keep {w w1 : World} {B b : Nat} {bs : List Value} (h : Lib.IsBuilder 85 5 B b bs w) (hk : ∀ (k : Nat) (cs : Array Value) (T : TypeId), w.heap[k]? = some (.cells cs T (0, 0)) → (T = 85 ∨ T = 5) → w1.heap[k]? = some (.cells cs T (0, 0))) : Lib.IsBuilder 85 5 B b bs w1 := by
  have key : ∀ p, Lib.BuilderAt 85 5 B b p bs w → Lib.BuilderAt 85 5 B b p bs w1 := by
    intro p h
    obtain ⟨hB, v, hv, hown, hne⟩ := h
    refine ⟨hB, v, hk _ _ _ hv (.inl rfl), ?_, hne⟩
    refine ⟨hown.1, ?_⟩
    rcases hown.2 with hn | ⟨g, cap, cur, rfl, hbg, hgg, rest⟩
    · exact .inl hn
    · exact .inr ⟨g, cap, cur, rfl, hbg, hk _ _ _ hgg (.inr rfl), rest⟩
  exact h.elim (fun x => .inl (key _ x)) (fun x => .inr (key _ x))
theorem IsBuilder_line {W W' : World} {B b c : Nat} {bs : List Value} {v : Value} (h : Lib.IsBuilder 85 5 B b bs W) (hm : LineMv c W W') (hc : W.heap[c]? = some (.cells #[v] 9 (0, 0))) : Lib.IsBuilder 85 5 B b bs W' :=
  IsBuilder_keep h fun k cs T hk hT => hm.blk hk (by
    rintro rfl
    rw [hk] at hc
    simp only [Option.some.injEq, Obj.cells.injEq] at hc
    obtain ⟨_, h2, _⟩ := hc
    rcases hT with h3 | h3 <;> rw [h3] at h2 <;> exact absurd h2 (by decide))
theorem IsBuilder_putObj {W : World} {B b l : Nat} {bs : List Value} {o o0 : Obj} (h : Lib.IsBuilder 85 5 B b bs W) (ho : W.heap[l]? = some o0) (hc : o0.isCells = false) : Lib.IsBuilder 85 5 B b bs (W.putObj l o) :=
  IsBuilder_keep h fun k cs T hk hT => blk_putObj hk (by
    rintro rfl
    rw [hk] at ho
    cases ho
    exact absurd hc (by simp [Obj.isCells]))
theorem builderString (B b : Nat) (l : List UInt8) (w : World) (h : Lib.IsBuilder 85 5 B b (Lib.byteCells l) w) (hBw : B ≤ w.heap.size) :
    Calls Tryz.prog 50 #[.pointer (some ⟨b, 0, none⟩)] w fun e w' => e = .returned (.string (mkS l)) ∧ Below B w w' ∧ Lib.OthersKept 5 (some b) w w' :=
  (Any.Builder_String_any_k Tryz.lays169 Tryz.Builder_Extra_169 B b l w (Lib.IsBuilderF.of h) hBw).mono fun e w' hx => ⟨hx.1, hx.2.2⟩
theorem others_deferred {w w' : World} {b D : Nat} {o : Obj} (h : Lib.OthersKept 5 (some b) w w') (hD : w.heap[D]? = some o) (hb : D ≠ b) (ho : ∀ c fz, o ≠ .cells c 5 fz) : w'.heap[D]? = some o :=
  h D o hD (fun e => hb (Option.some.inj e)) ho
end Go.Proofs.YtfeciafdioepiaaGreatDoor
set_option linter.unusedVariables false
set_option linter.unusedSimpArgs false
namespace Go.Proofs.YtfeciafdioepiaaGreatDoor
open Go.RowKit Go.Shelf Go.Proofs Go.Proofs.YtfeciafdioepiaaGreatDoorW.PrintWords Go.Proofs.YtfeciafdioepiaaGreatDoorW.PrintMore Go.Proofs.YtfeciafdioepiaaGreatDoor.PA
attribute [local go_sem] Oper.semAt_some

/-- The bytes of lines with their ends. -/
def costL (xs : List (Nat × List UInt8)) : Nat := (xs.map fun x => x.2.length + 1).sum
theorem costL_append (a b : List (Nat × List UInt8)) : costL (a ++ b) = costL a + costL b := by simp [costL]
theorem costL_lines (f : Nat) : ∀ (i : Nat) (l : List UInt8), costL (linesG f i l) ≤ l.length + 1 := by
  induction f with
  | zero => intro i l; simp [linesG, costL]
  | succ f ih =>
    intro i l
    by_cases h : l = []
    · subst h; rw [linesG_nil]; simp [costL]
    · rw [linesG_cons h]
      have hp : 0 < l.length := List.length_pos_iff.2 h
      have h1 := ih (i + 1) (l.drop (lineN l + 1))
      have hle := lineN_le l
      have hc : costL ((i, l.take (lineN l)) :: linesG f (i + 1) (l.drop (lineN l + 1))) = ((l.take (lineN l)).length + 1) + costL (linesG f (i + 1) (l.drop (lineN l + 1))) := by simp [costL]
      rw [hc, List.length_take]
      rw [List.length_drop] at h1
      by_cases h2 : l.length ≤ lineN l + 1
      · have h3 : l.drop (lineN l + 1) = [] := List.drop_eq_nil_of_le h2
        rw [h3, linesG_nil]
        simp [costL]; omega
      · omega
theorem costL_pre {pre : List (Nat × List UInt8)} {s : ByteArray} (h : pre <+: linesU s.data.toList) : costL pre ≤ s.size + 1 := by
  obtain ⟨r, hr⟩ := h
  have h1 := costL_lines s.data.toList.length 0 s.data.toList
  have h2 : s.data.toList.length = s.size := by simp
  have h3 : costL (pre ++ r) ≤ s.data.toList.length + 1 := by rw [hr]; exact h1
  rw [costL_append] at h3
  omega
end Go.Proofs.YtfeciafdioepiaaGreatDoor
set_option linter.unusedVariables false
set_option linter.unusedSimpArgs false
namespace Go.Proofs.YtfeciafdioepiaaGreatDoor
open Go.RowKit Go.Shelf Go.Proofs Go.Proofs.YtfeciafdioepiaaGreatDoorW.PrintWords Go.Proofs.YtfeciafdioepiaaGreatDoorW.PrintMore Go.Proofs.YtfeciafdioepiaaGreatDoor.PA
attribute [local go_sem] Oper.semAt_some

/-- A quoted line. -/
def quoteL (l : List UInt8) : List UInt8 := if l = [] ∨ 0 < markN l then 62 :: l else 62 :: 32 :: l
theorem quoteL_len (l : List UInt8) : (quoteL l).length ≤ l.length + 2 := by unfold quoteL; split <;> simp
set_option maxHeartbeats 1000000 in
set_option maxRecDepth 100000 in
theorem quoted_any (l : List UInt8) (w : World) (hl : l.length ≤ 1000000) : Calls Tryz.prog 46 #[.string (mkS l)] w fun e w' => e = .returned (.string (mkS (quoteL l))) ∧ Drawn0 w w' := by
  have hsz : (mkS l).size = l.length := mkS_size l
  have HL := Lib.hid (fun w => level_any (mkS l) w (by omega))
  have hq1 : (9223372036854775807 < 1 + (mkS l).size) = False := eq_false (by omega)
  have hq2 : (9223372036854775807 < 2 + (mkS l).size) = False := eq_false (by omega)
  have hc1 : (⟨#[62]⟩ : ByteArray) ++ mkS l = mkS (62 :: l) := mkS_append [62] l
  have hc2 : (⟨#[62, 32]⟩ : ByteArray) ++ mkS l = mkS (62 :: 32 :: l) := mkS_append [62, 32] l
  have htl : (mkS l).toList = l := toList_mk l
  by_cases h1 : l = []
  · have hq : quoteL l = 62 :: l := by unfold quoteL; rw [if_pos (.inl h1)]
    rw [hq, ← hc1]
    have c3b0 : ((mkS l).toList == ([] : List UInt8)) = true := by rw [htl]; exact beq_iff_eq.mpr h1
    generalize mkS l = a0 at *
    clear hc1 hc2 hq h1 htl
    go_enter Tryz.func46, Tryz.ntmps46
    go_wp2_with (go_at_call 24; refine (HL.out _).mono ?_; rintro e w' ⟨rfl, hd⟩; obtain ⟨nq, rfl⟩ := hd.1)
    go_ret
    exact ⟨rfl, drawn_of_drewN _ _⟩
  · have c3b0 : ((mkS l).toList == ([] : List UInt8)) = false := by rw [htl]; exact beq_eq_false_iff_ne.mpr h1
    by_cases h2 : 0 < markN l
    · have hq : quoteL l = 62 :: l := by unfold quoteL; rw [if_pos (.inr h2)]
      rw [hq, ← hc1]
      have c5 : decide ((0 : Int) < (markN (mkS l).data.toList : Int)) = true := decide_eq_true (by rw [mkS_toList]; omega)
      have c5' : decide (0 < markN (mkS l).data.toList) = true := decide_eq_true (by rw [mkS_toList]; omega)
      generalize mkS l = a0 at *
      clear hc1 hc2 hq h1 htl h2
      go_enter Tryz.func46, Tryz.ntmps46
      go_wp2_with (go_at_call 24; refine (HL.out _).mono ?_; rintro e w' ⟨rfl, hd⟩; obtain ⟨nq, rfl⟩ := hd.1)
      go_ret
      exact ⟨rfl, drawn_of_drewN _ _⟩
    · have hq : quoteL l = 62 :: 32 :: l := by unfold quoteL; rw [if_neg (by simp [h1, h2])]
      rw [hq, ← hc2]
      have c5 : decide ((0 : Int) < (markN (mkS l).data.toList : Int)) = false := decide_eq_false (by rw [mkS_toList]; omega)
      have c5' : decide (0 < markN (mkS l).data.toList) = false := decide_eq_false (by rw [mkS_toList]; omega)
      generalize mkS l = a0 at *
      clear hc1 hc2 hq h1 htl h2
      go_enter Tryz.func46, Tryz.ntmps46
      go_wp2_with (go_at_call 24; refine (HL.out _).mono ?_; rintro e w' ⟨rfl, hd⟩; obtain ⟨nq, rfl⟩ := hd.1)
      go_ret
      exact ⟨rfl, drawn_of_drewN _ _⟩

set_option maxHeartbeats 1000000 in
set_option maxRecDepth 100000 in
/-- The closure that adds a quoted line. -/
theorem add_any (B b : Nat) (bs : List Value) (l : List UInt8) (w : World) (hl : l.length ≤ 1000000) (h : Lib.IsBuilder 85 5 B b bs w) (hlen : bs.length + l.length + 3 ≤ 140737488355328) (hBw : B ≤ w.heap.size) :
    Calls Tryz.prog 45 #[.string (mkS l), .pointer (some ⟨b, 0, none⟩)] w fun e w' => e = .returned (.bool (decide (((quoteL l).length : Int) ≤ 998))) ∧
      (Lib.IsBuilder 85 5 B b (bs ++ Lib.byteCells (quoteL l ++ [10])) w' ∧ Below B w w' ∧ Sib w w' ∧ KeepsOthers w w') := by
  have hql := quoteL_len l
  have HQ := Lib.hid (fun w => quoted_any l w hl)
  have hsz : (mkS (quoteL l)).size = (quoteL l).length := mkS_size _
  have HW := Lib.hid (fun n => writeString3 B b bs (mkS (quoteL l ++ [10])) (w.drewN n) (IsBuilder_keep h (fun _ _ _ h _ => h)) (by rw [mkS_size]; simp; omega) hBw)
  have hq1 : (9223372036854775807 < (mkS (quoteL l)).size + 1) = False := eq_false (by omega)
  have hcat : mkS (quoteL l) ++ (⟨#[10]⟩ : ByteArray) = mkS (quoteL l ++ [10]) := mkS_append _ _
  have hst : Lib.strCells (mkS (quoteL l ++ [10])) = Lib.byteCells (quoteL l ++ [10]) := by rw [str_mk, mkS_toList]
  have Hst := Lib.hid hst
  rw [← hsz]
  have Hcat := Lib.hid hcat
  clear hst hcat hql hsz
  go_enter Tryz.func45, Tryz.ntmps45
  go_wp2_with (first
    | (go_at_call 46; refine (HQ.out _).mono ?_; rintro e w' ⟨rfl, hd⟩; obtain ⟨nq, rfl⟩ := hd.1)
    | (go_at_call 47; rw [Hcat.out]; refine (HW.out _).mono ?_; rintro e w3 ⟨rfl, hb3, hbl3, hsib3, hko3⟩; have HB3 := Aside0.mk hb3; have HBL3 := Aside0.mk hbl3; have HS3 := Aside0.mk hsib3; have HK3 := Aside0.mk hko3; clear hb3 hbl3 hsib3 hko3))
  go_ret
  refine ⟨rfl, ?_, (pw_below_drewN (Below.refl B w) _).trans HBL3.out, fun k cs T hk h1 h2 => HS3.out k cs T hk h1 h2, ⟨HK3.out.size, fun k o hk ho => HK3.out.same k o hk ho⟩⟩
  rw [← Hst.out]
  exact .inr HB3.out
end Go.Proofs.YtfeciafdioepiaaGreatDoor
set_option linter.unusedVariables false
set_option linter.unusedSimpArgs false
namespace Go.Proofs.YtfeciafdioepiaaGreatDoor
open Go.RowKit Go.Shelf Go.Proofs Go.Proofs.YtfeciafdioepiaaGreatDoorW.PrintWords Go.Proofs.YtfeciafdioepiaaGreatDoorW.PrintMore Go.Proofs.YtfeciafdioepiaaGreatDoor.PA
attribute [local go_sem] Oper.semAt_some

/-- The quoted lines, joined. -/
def quoteAll (xs : List (Nat × List UInt8)) : List UInt8 := xs.flatMap fun x => quoteL x.2 ++ [10]
theorem quoteAll_len (xs : List (Nat × List UInt8)) : (quoteAll xs).length ≤ 3 * costL xs := by
  induction xs with
  | nil => simp [quoteAll, costL]
  | cons x r ih =>
    have hc : costL (x :: r) = x.2.length + 1 + costL r := by simp [costL]
    have hq : quoteAll (x :: r) = quoteL x.2 ++ [10] ++ quoteAll r := rfl
    have := quoteL_len x.2
    rw [hq, hc]; simp; omega
def longQ (x : Nat × List UInt8) : Bool := decide (998 < (quoteL x.2).length)
def quoteR (xs : List (Nat × List UInt8)) : ByteArray × Int := if xs.any longQ = true then (⟨#[]⟩, 5) else if 65536 < (quoteAll xs).length then (⟨#[]⟩, 5) else (mkS (quoteAll xs), 0)

theorem two_results {w W : World} {D : Nat} {t : ByteArray} {c : Int} (n : Nat) (h0 : W.heap[n]? = some (.cells #[.string ⟨#[]⟩] 9 (0, 0))) (h1 : W.heap[n + 1]? = some (.cells #[.int .i64 0] 26 (0, 0))) (hD : n + 1 < D) :
    (((W.setCell ⟨n, 0, none⟩ (.string t)).setCell ⟨n + 1, 0, none⟩ (.int .i64 c)).putObj D (.deferred none)).cell? ⟨n, 0, none⟩ = some (.string t) ∧
    (((W.setCell ⟨n, 0, none⟩ (.string t)).setCell ⟨n + 1, 0, none⟩ (.int .i64 c)).putObj D (.deferred none)).cell? ⟨n + 1, 0, none⟩ = some (.int .i64 c) := by
  have a0 := blk_far (blk_put h0 0 (.string t) rfl) (p := ⟨n + 1, 0, none⟩) (by simp) (.int .i64 c)
  have a1 := blk_put (blk_far h1 (p := ⟨n, 0, none⟩) (by simp) (.string t)) 0 (.int .i64 c) rfl
  exact ⟨(blk_cell (blk_putObj a0 (by omega)) 0).trans rfl, (blk_cell (blk_putObj a1 (by omega)) 0).trans rfl⟩

set_option maxHeartbeats 1000000 in
set_option maxRecDepth 100000 in
theorem quote_main (s : ByteArray) (w : World) (hs : s.size ≤ 1000000) (k : Nat) (a : Int) (hcb : PC.article_CheckBody.f k s = some (a, 0)) :
    Calls Tryz.prog 21 #[.string s] w fun e w' => e = .returned (.tuple #[.string (quoteR (linesU s.data.toList)).1, .int .i64 (quoteR (linesU s.data.toList)).2]) ∧ Below w.heap.size w w' := by
  have HC := Lib.hid (fun w => PC.article_CheckBody.calls k s a 0 w hcb)
  clear hcb
  have hr0 := blk_alloc (heap_alloc_last w (.cells #[.string ⟨#[]⟩] 9)) (.cells #[.int .i64 0] 26)
  have hr1 : ((w.alloc (.cells #[.string ⟨#[]⟩] 9)).alloc (.cells #[.int .i64 0] 26)).heap[w.heap.size + 1]? = some (.cells #[.int .i64 0] 26 (0, 0)) := by
    have := heap_alloc_last (w.alloc (.cells #[.string ⟨#[]⟩] 9)) (.cells #[.int .i64 0] 26)
    rwa [World.size_alloc] at this
  obtain ⟨R, hR⟩ : ∃ R, quoteR (linesU s.data.toList) = R := ⟨_, rfl⟩
  rw [hR]
  have HRR := Lib.hid hR
  clear hR
  have HR0 := Aside0.mk hr0
  have HR1 := Aside0.mk hr1
  clear hr0 hr1
  refine (callsIn_wide (n := 3)).1 ?_
  refine callsIn_of_wp_marks Tryz.func21 rfl trivial ?_ rfl
  simp only [Tryz.ntmps21, List.size_toArray, List.length_cons, List.length_nil, Nat.reduceAdd, Nat.reduceSub, Array.replicate_succ, Array.replicate_zero, List.push_toArray, List.append_toArray, List.nil_append, List.cons_append]
  gi_wp2_with (first
    | (refine ⟨trivial, ?_⟩; gi_at_call 17; refine (callsIn_wide.2 (HC.out _)).mono ?_; rintro e w1 ⟨rfl, hb1⟩; have hc0 := blk_below HR0.out hb1; have hc1 := blk_below HR1.out hb1; have hlt1 := blk_lt hc1; have HC0 := Aside0.mk hc0; have HC1 := Aside0.mk hc1; have HB1 := Aside0.mk ((((Below.refl _ w).alloc (Nat.le_refl _) (.cells #[.string ⟨#[]⟩] 9)).alloc (by simp) (.cells #[.int .i64 0] 26)).trans (hb1.mono (by simp; omega))); clear hb1 hc1 hc0)
    | (refine ⟨trivial, ?_⟩; gi_at_call 48; refine (callsIn_wide.2 (lines_any s _)).mono ?_; rintro e w' ⟨rfl, rfl⟩))
  have hb0 : Lib.IsBuilder 85 5 w.heap.size w1.heap.size (Lib.byteCells []) (w1.alloc (.cells #[.pointer none, .slice none 0 0] 85)) := fresh_builder (by omega) (heap_alloc_last w1 _)
  have hb : Lib.IsBuilder 85 5 w.heap.size w1.heap.size (Lib.byteCells []) (((w1.alloc (.cells #[.pointer none, .slice none 0 0] 85)).alloc (.cells #[.func (.func 45) #[] #[.pointer (some ⟨w1.heap.size, 0, none⟩)]] 38)).alloc (.cells #[.string s] 9)) := IsBuilder_below (IsBuilder_below hb0 ((Below.refl _ _).alloc (Nat.le_refl _) _)) ((Below.refl _ _).alloc (Nat.le_refl _) _)
  have hf : (((w1.alloc (.cells #[.pointer none, .slice none 0 0] 85)).alloc (.cells #[.func (.func 45) #[] #[.pointer (some ⟨w1.heap.size, 0, none⟩)]] 38)).alloc (.cells #[.string s] 9)).heap[w1.heap.size + 1]? = some (.cells #[.func (.func 45) #[] #[.pointer (some ⟨w1.heap.size, 0, none⟩)]] 38 (0, 0)) := by
    have := heap_alloc_last (w1.alloc (.cells #[.pointer none, .slice none 0 0] 85)) (.cells #[.func (.func 45) #[] #[.pointer (some ⟨w1.heap.size, 0, none⟩)]] 38)
    rw [World.size_alloc] at this
    exact blk_alloc this _
  have hl : (((w1.alloc (.cells #[.pointer none, .slice none 0 0] 85)).alloc (.cells #[.func (.func 45) #[] #[.pointer (some ⟨w1.heap.size, 0, none⟩)]] 38)).alloc (.cells #[.string s] 9)).heap[w1.heap.size + 1 + 1]? = some (.cells #[.string s] 9 (0, 0)) := by
    have := heap_alloc_last ((w1.alloc (.cells #[.pointer none, .slice none 0 0] 85)).alloc (.cells #[.func (.func 45) #[] #[.pointer (some ⟨w1.heap.size, 0, none⟩)]] 38)) (.cells #[.string s] 9)
    rwa [World.size_alloc, World.size_alloc] at this
  have hc0 := blk_alloc (blk_alloc2 (o1 := .cells #[.pointer none, .slice none 0 0] 85) (o2 := (.cells #[.func (.func 45) #[] #[.pointer (some ⟨w1.heap.size, 0, none⟩)]] 38)) HC0.out) (.cells #[.string s] 9)
  have hc1 := blk_alloc (blk_alloc2 (o1 := .cells #[.pointer none, .slice none 0 0] 85) (o2 := (.cells #[.func (.func 45) #[] #[.pointer (some ⟨w1.heap.size, 0, none⟩)]] 38)) HC1.out) (.cells #[.string s] 9)
  have hB0 : Below w.heap.size w (((w1.alloc (.cells #[.pointer none, .slice none 0 0] 85)).alloc (.cells #[.func (.func 45) #[] #[.pointer (some ⟨w1.heap.size, 0, none⟩)]] 38)).alloc (.cells #[.string s] 9)) := ((HB1.out.alloc HB1.out.size _).alloc (by simp; omega) _).alloc (by simp; omega) _
  obtain ⟨W0, hW0⟩ : ∃ W0, ((w1.alloc (.cells #[.pointer none, .slice none 0 0] 85)).alloc (.cells #[.func (.func 45) #[] #[.pointer (some ⟨w1.heap.size, 0, none⟩)]] 38)).alloc (.cells #[.string s] 9) = W0 := ⟨_, rfl⟩
  have hsz : W0.heap.size = w1.heap.size + 3 := by rw [← hW0]; simp
  try simp only [World.size_alloc]
  rw [hW0] at hc0 hc1 hb hl hf hB0 ⊢
  have Hsz := Lib.hid hsz
  clear hW0 hsz hb0
  refine range_law2 (gf := 75) (lb := #[.pointer (some ⟨w1.heap.size + 1 + 1, 0, none⟩)]) rfl (enters_of Tryz.func75 (by kernel_rfl) rfl) (lines_iter s (w1.heap.size + 1 + 1) (by omega)) (fun _ _ h => h.others) (fun _ => rfl)
    (fun pre W => (Lib.IsBuilder 85 5 w.heap.size w1.heap.size (Lib.byteCells (quoteAll pre)) W ∧ W.heap[w.heap.size]? = some (.cells #[.string ⟨#[]⟩] 9 (0, 0)) ∧ W.heap[w.heap.size + 1]? = some (.cells #[.int .i64 0] 26 (0, 0)) ∧
      W.heap[w1.heap.size + 1]? = some (.cells #[.func (.func 45) #[] #[.pointer (some ⟨w1.heap.size, 0, none⟩)]] 38 (0, 0)) ∧ pre <+: linesU s.data.toList ∧ pre.any longQ = false) ∧ (∃ v, W.heap[w1.heap.size + 1 + 1]? = some (.cells #[v] 9 (0, 0))) ∧ Below w.heap.size w W)
    (fun c pre W => c = .ret ∧ pre.any longQ = true ∧ W.heap[w.heap.size]? = some (.cells #[.string ⟨#[]⟩] 9 (0, 0)) ∧ W.heap[w.heap.size + 1]? = some (.cells #[.int .i64 5] 26 (0, 0)) ∧ Below w.heap.size w W)
    (fun pre W W' h hm => by
      obtain ⟨v, hv⟩ := h.2.1
      exact ⟨⟨IsBuilder_line h.1.1 hm hv, hm.blk h.1.2.1 (by omega), hm.blk h.1.2.2.1 (by omega), hm.blk h.1.2.2.2.1 (by omega), h.1.2.2.2.2⟩, hm.own h.2.1, hm.below (by omega) h.2.2⟩) (fun pre W h => h.2.1)
    (fun pre W l o hl ho h => by
      obtain ⟨o0, ho0, hoc⟩ := ho
      have := Hsz.out
      obtain ⟨v, hv⟩ := h.2.1
      exact ⟨⟨IsBuilder_putObj h.1.1 ho0 hoc, blk_putObj h.1.2.1 (by omega), blk_putObj h.1.2.2.1 (by omega), blk_putObj h.1.2.2.2.1 (by omega), h.1.2.2.2.2⟩, ⟨v, blk_putObj hv (by omega)⟩, below_putObj h.2.2 (Nat.le_refl _) (by omega) _⟩)
    (fun c pre W l o hl ho h => by
      have := Hsz.out
      exact ⟨h.1, h.2.1, blk_putObj h.2.2.1 (by omega), blk_putObj h.2.2.2.1 (by omega), below_putObj h.2.2.2.2 (Nat.le_refl _) (by omega) _⟩)
    (fun o o' => ⟨⟨IsBuilder_below (IsBuilder_below hb ((Below.refl _ _).alloc (Nat.le_refl _) _)) ((Below.refl _ _).alloc (Nat.le_refl _) _), blk_alloc2 hc0, blk_alloc2 hc1, blk_alloc2 hf, List.nil_prefix, rfl⟩, ⟨_, blk_alloc2 hl⟩, (hB0.alloc (by have := Hsz.out; omega) _).alloc (by have := Hsz.out; simp; omega) _⟩)
    (fun o o' => blk_alloc2 hl)
    (fun x => { tmps := #[.string s, undef, .pointer (some ⟨w.heap.size, 0, none⟩), .pointer (some ⟨w.heap.size + 1, 0, none⟩), .int .i64 a, .int .i64 0, .pointer (some ⟨w1.heap.size, 0, none⟩), .pointer (some ⟨w1.heap.size + 1, 0, none⟩), undef, .string (mkS x.2), .tuple #[.int .i64 a, .int .i64 0], .string s, .tuple #[.int .i64 a, .int .i64 0], .int .i64 a, .int .i64 0, .int .i64 0, .bool false, undef, .func (.func 45) #[] #[.pointer (some ⟨w1.heap.size, 0, none⟩)], .string s, .func (.func 75) #[] #[.pointer (some ⟨w1.heap.size + 1 + 1, 0, none⟩)], .int .i64 x.1, .string (mkS x.2), undef, undef, undef, undef, undef, undef, undef], defers := [] }) ?assign ?body ?done ?stop
  case assign =>
    intro l x W K hK
    gi_wp2
    simpa using hK
  case body =>
    rintro l pre x W ⟨⟨hbd, hcn0, hcn1, hfn, hp, hany⟩, hbx, hB⟩ hlt
    have hcost := costL_pre hlt
    have hslen := quoteAll_len pre
    rw [costL_append] at hcost
    have hx1 : costL [x] = x.2.length + 1 := by simp [costL]
    have hql := quoteL_len x.2
    have hstr : quoteAll (pre ++ [x]) = quoteAll pre ++ (quoteL x.2 ++ [10]) := by simp [quoteAll]
    have hanyx : (pre ++ [x]).any longQ = longQ x := by rw [List.any_append, hany]; simp
    have hltc := blk_lt hcn0
    have HA := Lib.hid (add_any w.heap.size w1.heap.size (Lib.byteCells (quoteAll pre)) x.2 W (by omega) hbd (by simp [Lib.byteCells]; omega) (Nat.le_of_lt hltc))
    have Hstr := Lib.hid hstr
    have hcellf : W.cell? ⟨w1.heap.size + 1, 0, none⟩ = some (.func (.func 45) #[] #[.pointer (some ⟨w1.heap.size, 0, none⟩)]) := (blk_cell hfn 0).trans rfl
    have HCN0 := Aside0.mk hcn0
    have HCN1 := Aside0.mk hcn1
    have HFN := Aside0.mk hfn
    have HBX := Aside0.mk hbx
    have HB := Aside0.mk hB
    clear hstr hbd hbx hB hcost hslen hx1 hany hcn0 hcn1 hfn
    by_cases h9 : ((quoteL x.2).length : Int) ≤ 998
    · have hlq : longQ x = false := by unfold longQ; exact decide_eq_false (by omega)
      have hdec : decide (((quoteL x.2).length : Int) ≤ 998) = true := decide_eq_true h9
      rw [hdec] at HA
      rw [hlq] at hanyx
      have Hany := Lib.hid hanyx
      clear hanyx hlq hdec h9 hql
      gi_wp2_with (refine ⟨trivial, ?_⟩; gi_at_call 45; refine (CallsIn.inRound l (callsIn_wide.2 HA.out)).mono ?_; rintro e w3 ⟨rfl, hb3, hbl3, hsib3, hko3⟩; have HB3 := Aside0.mk hb3; have HBL3 := Aside0.mk hbl3; have HS3 := Aside0.mk hsib3; have HK3 := Aside0.mk hko3; clear hb3 hbl3 hsib3 hko3)
      refine ⟨HK3.out, ⟨⟨?_, (HS3.out _ _ 9 HCN0.out (by decide) (by decide)).trans HCN0.out, (HS3.out _ _ 26 HCN1.out (by decide) (by decide)).trans HCN1.out, (HS3.out _ _ 38 HFN.out (by decide) (by decide)).trans HFN.out, hlt, Hany.out⟩, ?_, HB.out.trans HBL3.out⟩⟩
      · rw [Hstr.out]
        have h1 : Lib.byteCells (quoteAll pre ++ (quoteL x.2 ++ [10])) = Lib.byteCells (quoteAll pre) ++ Lib.byteCells (quoteL x.2 ++ [10]) := by simp [Lib.byteCells]
        rw [h1]
        exact HB3.out
      · obtain ⟨v, hv⟩ := HBX.out
        exact ⟨v, (HS3.out _ _ 9 hv (by decide) (by decide)).trans hv⟩
    · have hlq : longQ x = true := by unfold longQ; exact decide_eq_true (by omega)
      have hdec : decide (((quoteL x.2).length : Int) ≤ 998) = false := decide_eq_false h9
      rw [hdec] at HA
      rw [hlq] at hanyx
      have Hany := Lib.hid hanyx
      clear hanyx hlq hdec h9 hql
      gi_wp2_with (refine ⟨trivial, ?_⟩; gi_at_call 45; refine (CallsIn.inRound l (callsIn_wide.2 HA.out)).mono ?_; rintro e w3 ⟨rfl, hb3, hbl3, hsib3, hko3⟩; have hcm0 := (hsib3 _ _ 9 HCN0.out (by decide) (by decide)).trans HCN0.out; have hcm1 := (hsib3 _ _ 26 HCN1.out (by decide) (by decide)).trans HCN1.out; have hce0 : w3.cell? ⟨w.heap.size, 0, none⟩ = some (.string ⟨#[]⟩) := (blk_cell hcm0 0).trans rfl; have hce1 : w3.cell? ⟨w.heap.size + 1, 0, none⟩ = some (.int .i64 0) := (blk_cell hcm1 0).trans rfl; have hfz0 := blk_frozen hcm0 0; have hfz1 := blk_frozen hcm1 0; have HCM0 := Aside0.mk hcm0; have HCM1 := Aside0.mk hcm1; have HBL3 := Aside0.mk hbl3; have HK3 := Aside0.mk hko3; clear hb3 hbl3 hsib3 hko3 hcm0 hcm1)
      refine ⟨(HK3.out.trans (KeepsOthers.setCell _ _ _)).trans (KeepsOthers.setCell _ _ _), rfl, Hany.out, blk_far (blk_put HCM0.out 0 _ rfl) (p := ⟨w.heap.size + 1, 0, none⟩) (by simp) _, blk_put (blk_far HCM1.out (p := ⟨w.heap.size, 0, none⟩) (by simp) _) 0 _ rfl,
        ((HB.out.trans HBL3.out).setCell (p := ⟨w.heap.size, 0, none⟩) (Nat.le_refl _) _).setCell (p := ⟨w.heap.size + 1, 0, none⟩) (Nat.le_succ _) _⟩
  case done =>
    rintro D ys W hD rfl ⟨⟨hbd, hcn0, hcn1, hfn, _, hany⟩, _, hB⟩ hK
    have hw0 := Hsz.out
    have hq0 : quoteR (linesU s.data.toList) = if 65536 < (quoteAll (linesU s.data.toList)).length then (⟨#[]⟩, 5) else (mkS (quoteAll (linesU s.data.toList)), 0) := by unfold quoteR; rw [if_neg (by simp [hany])]
    have HRq := Lib.hid (HRR.out.symm.trans hq0)
    clear HRR
    generalize quoteAll (linesU s.data.toList) = L at *
    have hln := Tryz.Builder_Len _ _ _ _ hbd
    rw [Lib.byteCells_length] at hln
    have HLN := Lib.hid hln
    have hce0 : W.cell? ⟨w.heap.size, 0, none⟩ = some (.string ⟨#[]⟩) := (blk_cell hcn0 0).trans rfl
    have hce1 : W.cell? ⟨w.heap.size + 1, 0, none⟩ = some (.int .i64 0) := (blk_cell hcn1 0).trans rfl
    have hfz0 := blk_frozen hcn0 0
    have hfz1 := blk_frozen hcn1 0
    have HCN0 := Aside0.mk hcn0
    have HCN1 := Aside0.mk hcn1
    have HBD := Aside0.mk hbd
    have HB := Aside0.mk hB
    have HKK := Aside0.mk hK
    clear hln hcn0 hcn1 hbd hB hK hq0 hany hfn hc0 hc1 hb hf hl hB0
    by_cases hlong : 65536 < L.length
    · obtain rfl : R = (⟨#[]⟩, 5) := by rw [HRq.out, if_pos hlong]
      have hd : decide ((65536 : Int) < (L.length : Int)) = true := decide_eq_true (by omega)
      have hd' : decide (65536 < L.length) = true := decide_eq_true hlong
      clear hlong
      gi_wp2_with (first | (refine ⟨trivial, ?_⟩; gi_at_call 49; refine (callsIn_wide.2 HLN.out).mono ?_; rintro e w2 ⟨rfl, rfl⟩))
      obtain ⟨hc5, hc6⟩ := two_results (w := w) (D := D) (t := ⟨#[]⟩) (c := 5) w.heap.size HCN0.out HCN1.out (by omega)
      have hKe := (KeepsOthers.setCell _ ⟨w.heap.size + 1, 0, none⟩ (.int .i64 5)).same D _ ((KeepsOthers.setCell _ ⟨w.heap.size, 0, none⟩ (.string ⟨#[]⟩)).same D _ (HKK.out) rfl) rfl
      refine ⟨by simp, .inl ⟨_, _, rfl, run_takeDeferred hKe, ?_⟩⟩
      refine ⟨.tuple #[.string ⟨#[]⟩, .int .i64 5], ?_, rfl, below_putObj (((HB.out).setCell (p := ⟨w.heap.size, 0, none⟩) (Nat.le_refl _) _).setCell (p := ⟨w.heap.size + 1, 0, none⟩) (Nat.le_succ _) _) (Nat.le_refl _) (by omega) _⟩
      simp [results, Tryz.f21, go_sem, hc5, hc6]
    · obtain rfl : R = (mkS L, 0) := by rw [HRq.out, if_neg hlong]
      have hd : decide ((65536 : Int) < (L.length : Int)) = false := decide_eq_false (by omega)
      have hd' : decide (65536 < L.length) = false := decide_eq_false hlong
      clear hlong
      gi_wp2_with (first
        | (refine ⟨trivial, ?_⟩; gi_at_call 49; refine (callsIn_wide.2 HLN.out).mono ?_; rintro e w2 ⟨rfl, rfl⟩)
        | (refine ⟨trivial, ?_⟩; gi_at_call 50; refine (callsIn_wide.2 (builderString _ _ _ _ HBD.out HB.out.size)).mono ?_; rintro e w2 ⟨rfl, hb2, ho2⟩; have hcm0 := others_deferred ho2 HCN0.out (by omega) (fun _ _ e => by cases e); have hcm1 := others_deferred ho2 HCN1.out (by omega) (fun _ _ e => by cases e); have hce0 : w2.cell? ⟨w.heap.size, 0, none⟩ = some (.string ⟨#[]⟩) := (blk_cell hcm0 0).trans rfl; have hce1 : w2.cell? ⟨w.heap.size + 1, 0, none⟩ = some (.int .i64 0) := (blk_cell hcm1 0).trans rfl; have hfz0 := blk_frozen hcm0 0; have hfz1 := blk_frozen hcm1 0; have HCM0 := Aside0.mk hcm0; have HCM1 := Aside0.mk hcm1; have HB2 := Aside0.mk hb2; have HO2 := Aside0.mk ho2; clear hb2 ho2 hcm0 hcm1))
      obtain ⟨hc5, hc6⟩ := two_results (w := w) (D := D) (t := (mkS L)) (c := 0) w.heap.size HCM0.out HCM1.out (by omega)
      have hKe := (KeepsOthers.setCell _ ⟨w.heap.size + 1, 0, none⟩ (.int .i64 0)).same D _ ((KeepsOthers.setCell _ ⟨w.heap.size, 0, none⟩ (.string (mkS L))).same D _ (others_deferred HO2.out HKK.out (by omega) (fun _ _ e => by cases e)) rfl) rfl
      refine ⟨by simp, .inl ⟨_, _, rfl, run_takeDeferred hKe, ?_⟩⟩
      refine ⟨.tuple #[.string (mkS L), .int .i64 0], ?_, rfl, below_putObj (((HB.out.trans HB2.out).setCell (p := ⟨w.heap.size, 0, none⟩) (Nat.le_refl _) _).setCell (p := ⟨w.heap.size + 1, 0, none⟩) (Nat.le_succ _) _) (Nat.le_refl _) (by omega) _⟩
      simp [results, Tryz.f21, go_sem, hc5, hc6]
  case stop =>
    rintro D c pre W hD hpre ⟨rfl, hany, hcn0, hcn1, hB⟩ hK
    have hw0 := Hsz.out
    have hq : quoteR (linesU s.data.toList) = (⟨#[]⟩, 5) := by
      unfold quoteR
      obtain ⟨r, hr⟩ := hpre
      rw [if_pos (by rw [← hr, List.any_append, hany]; rfl)]
    obtain rfl : R = (⟨#[]⟩, 5) := HRR.out.symm.trans hq
    clear hq hany hc0 hc1 hb hf hl hB0
    gi_wp2
    have hc5 : (W.putObj D (.deferred none)).cell? ⟨w.heap.size, 0, none⟩ = some (.string ⟨#[]⟩) := (blk_cell (blk_putObj hcn0 (by omega)) 0).trans rfl
    have hc6 : (W.putObj D (.deferred none)).cell? ⟨w.heap.size + 1, 0, none⟩ = some (.int .i64 5) := (blk_cell (blk_putObj hcn1 (by omega)) 0).trans rfl
    refine ⟨by simp, .inl ⟨_, _, rfl, run_takeDeferred hK, ?_⟩⟩
    refine ⟨.tuple #[.string ⟨#[]⟩, .int .i64 5], ?_, rfl, below_putObj hB (Nat.le_refl _) (by omega) _⟩
    simp [results, Tryz.f21, go_sem, hc5, hc6]

def GV.Quote.f (k : Nat) (s : ByteArray) : Option (ByteArray × Int) :=
  (PC.article_CheckBody.f k s).bind fun x => if x.2 ≠ 0 then some (⟨#[]⟩, x.2) else if s.size ≤ 1000000 then some (quoteR (linesU s.data.toList)) else none
set_option maxHeartbeats 1000000 in
theorem quote_bad (s : ByteArray) (w : World) (k : Nat) (a c : Int) (hc0 : c ≠ 0) (hcb : PC.article_CheckBody.f k s = some (a, c)) :
    Calls Tryz.prog 21 #[.string s] w fun e w' => e = .returned (.tuple #[.string ⟨#[]⟩, .int .i64 c]) ∧ Below w.heap.size w w' := by
  have hcn : (c != 0) = true := bne_iff_ne.2 hc0
  have HC := Lib.hid (fun w => PC.article_CheckBody.calls k s a c w hcb)
  clear hcb hc0
  have hr0 := blk_alloc (heap_alloc_last w (.cells #[.string ⟨#[]⟩] 9)) (.cells #[.int .i64 0] 26)
  have hr1 : ((w.alloc (.cells #[.string ⟨#[]⟩] 9)).alloc (.cells #[.int .i64 0] 26)).heap[w.heap.size + 1]? = some (.cells #[.int .i64 0] 26 (0, 0)) := by
    have := heap_alloc_last (w.alloc (.cells #[.string ⟨#[]⟩] 9)) (.cells #[.int .i64 0] 26)
    rwa [World.size_alloc] at this
  have HR0 := Aside0.mk hr0
  have HR1 := Aside0.mk hr1
  clear hr0 hr1
  go_enter Tryz.func21, Tryz.ntmps21
  go_wp2_with (go_at_call 17; refine (HC.out _).mono ?_; rintro e w1 ⟨rfl, hb1⟩; have hc0 := blk_below HR0.out hb1; have hc1 := blk_below HR1.out hb1; have hce0 : w1.cell? ⟨w.heap.size, 0, none⟩ = some (.string ⟨#[]⟩) := (blk_cell hc0 0).trans rfl; have hce1 : w1.cell? ⟨w.heap.size + 1, 0, none⟩ = some (.int .i64 0) := (blk_cell hc1 0).trans rfl; have hfz0 := blk_frozen hc0 0; have hfz1 := blk_frozen hc1 0; have HC0 := Aside0.mk hc0; have HC1 := Aside0.mk hc1; have HB1 := Aside0.mk ((((Below.refl _ w).alloc (Nat.le_refl _) (.cells #[.string ⟨#[]⟩] 9)).alloc (by simp) (.cells #[.int .i64 0] 26)).trans (hb1.mono (by simp; omega))); clear hb1 hc1 hc0)
  have a0 := blk_far (blk_put HC0.out 0 (.string ⟨#[]⟩) rfl) (p := ⟨w.heap.size + 1, 0, none⟩) (by simp) (.int .i64 c)
  have a1 := blk_put (blk_far HC1.out (p := ⟨w.heap.size, 0, none⟩) (by simp) (.string ⟨#[]⟩)) 0 (.int .i64 c) rfl
  have hc5 := (blk_cell a0 0).trans rfl
  have hc6 := (blk_cell a1 0).trans rfl
  refine bodyPost_ret (v := .tuple #[.string ⟨#[]⟩, .int .i64 c]) (by simp [results, Tryz.f21, go_sem, hc5, hc6]) rfl ⟨rfl, below_set (below_set HB1.out (Nat.le_refl _)) (Nat.le_succ _)⟩
theorem GV.Quote.calls (k : Nat) (a0 : ByteArray) (r1 : ByteArray) (r2 : Int) (w : World) (h : GV.Quote.f k a0 = some (r1, r2)) :
    Calls Tryz.prog 21 #[.string a0] w fun e w' => e = .returned (.tuple #[.string r1, .int .i64 r2]) ∧ Below w.heap.size w w' := by
  unfold GV.Quote.f at h
  cases hc : PC.article_CheckBody.f k a0 with
  | none => rw [hc] at h; simp at h
  | some x =>
    obtain ⟨a, c⟩ := x
    rw [hc] at h
    simp only [Option.bind_some] at h
    by_cases h2 : c = 0
    · subst h2
      rw [if_neg (by simp)] at h
      by_cases h3 : a0.size ≤ 1000000
      · rw [if_pos h3] at h
        have h4 := Option.some.inj h
        have := quote_main a0 w h3 k a hc
        rw [h4] at this
        exact this
      · rw [if_neg h3] at h; simp at h
    · rw [if_pos h2] at h
      simp only [Option.some.injEq, Prod.mk.injEq] at h
      obtain ⟨rfl, rfl⟩ := h
      exact quote_bad a0 w k a _ h2 hc
end Go.Proofs.YtfeciafdioepiaaGreatDoor
set_option linter.unusedVariables false
set_option linter.unusedSimpArgs false
namespace Go.Proofs.YtfeciafdioepiaaGreatDoor
open Go.RowKit Go.Shelf Go.Proofs Go.Proofs.YtfeciafdioepiaaGreatDoorW.PrintWords Go.Proofs.YtfeciafdioepiaaGreatDoorW.PrintMore Go.Proofs.YtfeciafdioepiaaGreatDoor.PA
def knF : List S76 := [⟨mkS [83, 117, 98, 106, 101, 99, 116], mkS [97]⟩]
theorem kn1 : GV.AParse.f 60 ⟨#[83, 117, 98, 106, 101, 99, 116, 58, 32, 97, 10, 10, 104, 101, 108, 108, 111, 10]⟩ = some (knF, ⟨#[104, 101, 108, 108, 111, 10]⟩, 0, 0) := by kernel_rfl
theorem kn2 : PC.article_Print.f 60 knF ⟨#[104, 101, 108, 108, 111, 10]⟩ = some (⟨#[83, 117, 98, 106, 101, 99, 116, 58, 32, 97, 10, 10, 104, 101, 108, 108, 111, 10]⟩, 0) := by decide +kernel
theorem kn3 : GV.AParse.f 60 ⟨#[83, 117, 98, 106, 101, 99, 116, 58, 32, 97, 10, 10, 120]⟩ = some ([], ⟨#[]⟩, 13, 4) := by kernel_rfl
theorem kn4 : GV.Quote.f 60 ⟨#[97, 10, 62, 32, 98, 10, 10]⟩ = some (⟨#[62, 32, 97, 10, 62, 62, 32, 98, 10, 62, 10]⟩, 0) := by decide +kernel
theorem kn5 : markN [62, 62, 32, 120] = 2 ∧ restL [62, 62, 32, 120] = [120] := by decide +kernel
theorem kn6 : (linesU [97, 10, 98]).length = 2 := by decide +kernel
end Go.Proofs.YtfeciafdioepiaaGreatDoor
set_option linter.unusedVariables false
set_option linter.unusedSimpArgs false
namespace Go.Proofs.YtfeciafdioepiaaGreatDoor
open Go.RowKit Go.Shelf Go.Proofs Go.Proofs.YtfeciafdioepiaaGreatDoorW.PrintWords Go.Proofs.YtfeciafdioepiaaGreatDoorW.PrintMore Go.Proofs.YtfeciafdioepiaaGreatDoor.PA
attribute [local go_sem] Oper.semAt_some
set_option maxHeartbeats 4000000 in
set_option maxRecDepth 100000 in
theorem known_any (w : World) (hgm : Gm w) : Calls Tryz.prog 14 #[] w fun e w' => e = .returned (.bool true) ∧ Below w.heap.size w w' := by
  have hu76 := Tryz.underlying76
  have HGM := Aside0.mk hgm
  clear hgm
  go_enter Tryz.func14, Tryz.ntmps14
  go_wp2_with fail
  refine (GV.AParse.calls 60 _ _ _ _ _ _ HGM.out kn1).mono ?_
  rintro e w1 ⟨v1, rfl, hR1, hb1⟩
  obtain ⟨g, c1, rfl⟩ : ∃ g c, v1 = .slice (some ⟨g, 0, none⟩) knF.length c := by
    obtain ⟨inner, ho⟩ := Kd.R_own hR1
    rcases ho.2 with ⟨_, h0⟩ | ⟨g, c, cur, hv, _⟩
    · exact absurd h0 (by decide)
    · exact ⟨g, c, hv⟩
  have HR1 := Aside0.mk (Kd.R_alloc hR1 (.cells #[.slice (some ⟨g, 0, none⟩) knF.length c1, .string ⟨#[104, 101, 108, 108, 111, 10]⟩] 25))
  have HA1 := Aside0.mk (blk_new w1 (.cells #[.slice (some ⟨g, 0, none⟩) knF.length c1, .string ⟨#[104, 101, 108, 108, 111, 10]⟩] 25))
  have HB1 := Aside0.mk (below_alloc hb1 (.cells #[.slice (some ⟨g, 0, none⟩) knF.length c1, .string ⟨#[104, 101, 108, 108, 111, 10]⟩] 25))
  have HGM1 := Aside0.mk (gm_at (gm_at HGM.out hb1) ((Below.refl _ _).alloc (Nat.le_refl _) (.cells #[.slice (some ⟨g, 0, none⟩) knF.length c1, .string ⟨#[104, 101, 108, 108, 111, 10]⟩] 25)))
  clear hR1 hb1
  go_wp2_with fail
  refine (PC.article_Print.calls 60 (some ⟨g, 0, none⟩) c1 knF _ _ _ _ (Kd.R_reads' HR1.out).2.2 (Kd.R_reads' HR1.out).2.1 kn2).mono ?_
  rintro e w2 ⟨rfl, hb2⟩
  have HB2 := Aside0.mk (HB1.out.trans (hb2.mono HB1.out.size))
  have HR2 := Aside0.mk (Kd.R_below HR1.out hb2)
  have HA2 := Aside0.mk (blk_below HA1.out hb2)
  have HGM2 := Aside0.mk (gm_at HGM1.out hb2)
  clear hb2 HR1 HA1 HB1 HGM1
  go_wp2_with fail
  refine (GV.AParse.calls 60 _ _ _ _ _ _ HGM2.out kn3).mono ?_
  rintro e w3 ⟨v3, rfl, hR3, hb3⟩
  obtain ⟨A3, c3, e3⟩ := Kd.R_slice hR3
  subst e3
  have HB3 := Aside0.mk (HB2.out.trans (hb3.mono HB2.out.size))
  have HR3 := Aside0.mk (Kd.R_below HR2.out hb3)
  have HA3 := Aside0.mk (blk_below HA2.out hb3)
  clear hR3 hb3 HB2 HR2 HA2 HGM2
  go_wp2_with fail
  refine (GV.Quote.calls 60 _ _ _ _ kn4).mono ?_
  rintro e w4 ⟨rfl, hb4⟩
  have HB4 := Aside0.mk ((below_alloc HB3.out (.cells #[.slice A3 0 c3, .string ⟨#[]⟩] 25)).trans (hb4.mono (below_alloc HB3.out _).size))
  have HA4 := Aside0.mk (blk_below (blk_alloc HA3.out (.cells #[.slice A3 0 c3, .string ⟨#[]⟩] 25)) hb4)
  have hR4 := Kd.R_below (Kd.R_alloc HR3.out (.cells #[.slice A3 0 c3, .string ⟨#[]⟩] 25)) hb4
  obtain ⟨ad, e5, hx0, hx1⟩ := at_T76 (Kd.R_reads' hR4).2.2 0 (by decide) (by decide)
  injection e5 with e5
  subst e5
  have hx0' : w4.cell? ⟨g, 0, none⟩ = some (.string ⟨#[83, 117, 98, 106, 101, 99, 116]⟩) := hx0
  have hx1' : w4.cell? ⟨g, 1, none⟩ = some (.string ⟨#[97]⟩) := hx1
  have ha0 : w4.cell? ⟨w1.heap.size, 0, none⟩ = some (.slice (some ⟨g, 0, none⟩) 1 c1) := (blk_cell HA4.out 0).trans rfl
  have ha1 : w4.cell? ⟨w1.heap.size, 1, none⟩ = some (.string ⟨#[104, 101, 108, 108, 111, 10]⟩) := (blk_cell HA4.out 1).trans rfl
  clear hR4 hb4 HR3 HA3 HB3 hx0 hx1
  go_wp2_with fail
  refine (level_any ⟨#[62, 62, 32, 120]⟩ _ (by decide)).mono ?_
  rintro e w5 ⟨rfl, hd⟩
  obtain ⟨n5, rfl⟩ := hd.1
  have e1 : (⟨#[62, 62, 32, 120]⟩ : ByteArray).data.toList = [62, 62, 32, 120] := rfl
  rw [e1, kn5.1, kn5.2]
  have e2 : mkS [120] = ⟨#[120]⟩ := rfl
  rw [e2]
  clear e1 e2 hd
  have HCT := Lib.hid (fun w => count_any ⟨#[97, 10, 98]⟩ w (by decide))
  go_wp2_with (go_at_call 39; refine (HCT.out _).mono ?_; rintro e w6 ⟨he, hb6⟩; rw [show (linesU (⟨#[97, 10, 98]⟩ : ByteArray).data.toList).length = 2 from kn6] at he; subst he; have HB6 := Aside0.mk ((pw_below_drewN HB4.out n5).trans (hb6.mono HB4.out.size)); clear hb6)
  go_ret
  exact ⟨rfl, HB6.out⟩
theorem GV.known.calls (r : Bool) (w : World) (hgm : Gm w) (h : GV.known.f = some r) : Calls Tryz.prog 14 #[] w fun e w' => e = .returned (.bool r) ∧ Below w.heap.size w w' := by
  injection h with h
  subst h
  exact known_any w hgm
end Go.Proofs.YtfeciafdioepiaaGreatDoor
namespace Go.Proofs.YtfeciafdioepiaaGreatDoor.PA
open Go.RowKit Go.Proofs.YtfeciafdioepiaaGreatDoorW.PrintWords Go.Proofs.YtfeciafdioepiaaGreatDoorW.PrintLast Go.Proofs.YtfeciafdioepiaaGreatDoorW.PrintMore
attribute [local go_sem] max2_int min2_int max_two min_two max_three min_three max_four min_four   -- for this text's walks alone
set_option linter.unusedVariables false
set_option linter.unusedSimpArgs false

/-! ### bulletinref15_ToLine: function 30 -/
/-! ### strings_HasPrefix: function 57 -/
def strings_HasPrefix.f (a0 : ByteArray) (a1 : ByteArray) : Option (Bool) := (stringslite_HasPrefix.f a0 a1).bind fun t297 => (some t297)
set_option maxHeartbeats 8000000 in
set_option maxRecDepth 100000 in
theorem strings_HasPrefix.calls (a0 : ByteArray) (a1 : ByteArray) (r : Bool) (w : World) (h : strings_HasPrefix.f a0 a1 = some r) :
    Calls Tryz.prog 57 #[.string a0, .string a1] w fun e w' => e = .returned (.bool r) ∧ Drawn0 w w' := by
  have H : ((stringslite_HasPrefix.f a0 a1).bind fun t297 => (some t297)) = some r := h
  clear h
  replace H := Option.bind_eq_some_iff.mp H
  obtain ⟨t297, A30, H⟩ := H
  replace H : (some t297) = some r := H
  have A3 := Aside0.mk A30
  clear A30
  obtain rfl := Option.some.inj H
  go_enter Tryz.func57, Tryz.ntmps57
  go_wp2_with (first | ((with_reducible refine gate_callee (f := 83) rfl ?_); refine goesL_ (some 7) rfl rfl Tryz.func83 (by kernel_rfl) rfl #[.string a0, .string a1] rfl (by (try simp only [List.map_toArray, List.map_cons, List.map_nil]); first | done | rfl | (simp only [List.length_drop, List.length_take]; rfl)) ?_; (with_reducible refine (stringslite_HasPrefix.calls a0 a1 t297 _ A3.out).mono ?_); rintro e w' ⟨rfl, ⟨nd, rfl⟩⟩; refine ⟨_, rfl, ?_⟩))
  go_ret
  exact ⟨by first | rfl | (simp; done) | (simp [*]; done), by repeat (first | exact Drawn0.refl _ | apply Drawn0.step)⟩

-- NOT PRINTED: function 31 (article_FromLine)

-- NOT PRINTED: function 9 (bulletinlaw15_ArticleToLine)

end Go.Proofs.YtfeciafdioepiaaGreatDoor.PA
namespace Go.Proofs.YtfeciafdioepiaaGreatDoor.PA
open Go.RowKit Go.Proofs.YtfeciafdioepiaaGreatDoorW.PrintWords Go.Proofs.YtfeciafdioepiaaGreatDoorW.PrintLast Go.Proofs.YtfeciafdioepiaaGreatDoorW.PrintMore
attribute [local go_sem] max2_int min2_int max_two min_two max_three min_three max_four min_four   -- for this text's walks alone
set_option linter.unusedVariables false
set_option linter.unusedSimpArgs false

/-! ### bulletinref15_FromLine: function 32 -/
mutual
def bulletinref15_FromLine.l0 : Nat → ByteArray → List Int → Int → Option (ByteArray × Int × Int)
  | 0, _, _, _ => none
  | k + 1, x0, x5, x6 => if x6 < (x0.size : Int) then (if 0 ≤ x6 then (if (bt x0 x6) = 13 then (if (wrap64 (x6 + 1)) = (x0.size : Int) then (bulletinref15_FromLine.j1 k x0 x5 x6 true) else (if 0 ≤ (wrap64 (x6 + 1)) then (if (wrap64 (x6 + 1)) < (x0.size : Int) then (if (bt x0 (wrap64 (x6 + 1))) = 10 then (if (bt x0 x6) = 10 then (if x6 = 0 then (bulletinref15_FromLine.j1 k x0 x5 x6 true) else (if 0 ≤ (wrap64 (x6 - 1)) then (if (wrap64 (x6 - 1)) < (x0.size : Int) then (bulletinref15_FromLine.j1 k x0 x5 x6 ((bt x0 (wrap64 (x6 - 1))) != 13)) else (none)) else (none))) else (bulletinref15_FromLine.j1 k x0 x5 x6 false)) else (bulletinref15_FromLine.j1 k x0 x5 x6 true)) else (none)) else (none))) else (if (bt x0 x6) = 10 then (if x6 = 0 then (bulletinref15_FromLine.j1 k x0 x5 x6 true) else (if 0 ≤ (wrap64 (x6 - 1)) then (if (wrap64 (x6 - 1)) < (x0.size : Int) then (bulletinref15_FromLine.j1 k x0 x5 x6 ((bt x0 (wrap64 (x6 - 1))) != 13)) else (none)) else (none))) else (bulletinref15_FromLine.j1 k x0 x5 x6 false))) else (none)) else (if x0.toList = ([] : List UInt8) then (bulletinref15_FromLine.j2 k x0 x5 false) else (if 0 ≤ (wrap64 ((x0.size : Int) - 1)) then (if (wrap64 ((x0.size : Int) - 1)) < (x0.size : Int) then (bulletinref15_FromLine.j2 k x0 x5 ((bt x0 (wrap64 ((x0.size : Int) - 1))) != 10)) else (none)) else (none)))
def bulletinref15_FromLine.j1 : Nat → ByteArray → List Int → Int → Bool → Option (ByteArray × Int × Int)
  | 0, _, _, _, _ => none
  | k + 1, x0, x5, x6, x51 => if x51 = true then (some ((⟨#[]⟩ : ByteArray), x6, 3)) else (if 0 ≤ x6 then (if x6 < (x0.size : Int) then (if (bt x0 x6) = 13 then (bulletinref15_FromLine.l0 k x0 x5 (wrap64 (x6 + 1))) else (if x5.length < 140737488355328 then (bulletinref15_FromLine.l0 k x0 (x5 ++ [bt x0 x6]) (wrap64 (x6 + 1))) else (none))) else (none)) else (none))
def bulletinref15_FromLine.j2 : Nat → ByteArray → List Int → Bool → Option (ByteArray × Int × Int)
  | 0, _, _, _ => none
  | k + 1, x0, x5, x72 => if x72 = true then (some ((⟨#[]⟩ : ByteArray), (x0.size : Int), 4)) else (if (x5.length : Int) > 65536 then (some ((⟨#[]⟩ : ByteArray), 0, 5)) else (some (strOfNums x5, 0, 0)))
end
def bulletinref15_FromLine.f (k : Nat) (a0 : ByteArray) : Option (ByteArray × Int × Int) := if (a0.size : Int) > 131072 then (some ((⟨#[]⟩ : ByteArray), 131072, 5)) else (bulletinref15_FromLine.l0 k a0 (([] : List Int)) 0)
set_option maxHeartbeats 8000000 in
set_option maxRecDepth 100000 in
theorem bulletinref15_FromLine.calls (k : Nat) (a0 : ByteArray) (r1 : ByteArray) (r2 : Int) (r3 : Int) (w : World) (h : bulletinref15_FromLine.f k a0 = some (r1, r2, r3)) :
    Calls Tryz.prog 32 #[.string a0] w fun e w' => e = .returned (.tuple #[.string r1, .int .i64 r2, .int .i64 r3]) ∧ Below w.heap.size w w' := by
  have HB := Aside0.mk (Below.refl w.heap.size w)
  have H : (if (a0.size : Int) > 131072 then (some ((⟨#[]⟩ : ByteArray), 131072, 5)) else (bulletinref15_FromLine.l0 k a0 (([] : List Int)) 0)) = some (r1, r2, r3) := h
  clear h
  by_cases c2 : (a0.size : Int) > 131072
  · rw [if_pos c2] at H
    have c2b0 : decide (131072 < (a0.size : Int)) = true := decide_eq_true c2
    have c2b1 : decide (131072 < a0.size) = true := decide_eq_true (by omega)
    clear c2
    simp only [Option.some.injEq, Prod.mk.injEq] at H
    obtain ⟨rfl, rfl, rfl⟩ := H
    go_enter Tryz.func32, Tryz.ntmps32
    go_wp2
    go_ret3
    exact ⟨by first | rfl | (simp [errW_none, errW_some] <;> rfl) | (simp [*, errW_none, errW_some] <;> rfl), by repeat (first | (with_reducible first | exact HB.out | apply below_alloc | apply pw_below_drewN | apply below_drew1) | exact HB.out)⟩
  · rw [if_neg c2] at H
    have c2b0 : decide (131072 < (a0.size : Int)) = false := decide_eq_false c2
    have c2b1 : decide (131072 < a0.size) = false := decide_eq_false (by omega)
    clear c2
    obtain ⟨y302, hy302⟩ : ∃ y_ : List Int, y_ = (([] : List Int)) := ⟨_, rfl⟩
    replace H : (bulletinref15_FromLine.l0 k a0 y302 0) = some (r1, r2, r3) := by first | (rw [hy302]; with_reducible exact H) | (have H2_ := (Option.bind_some _ _).symm.trans H; rw [hy302]; with_reducible exact H2_) | (have H2_ := (Option.bind_some _ _).symm.trans H; with_reducible exact H2_) | with_reducible exact H | (rw [hy302]; exact H) | exact H
    have Ny302 := Aside0.mk hy302
    clear hy302
    have H' := Aside0.mk H
    clear H
    go_enter Tryz.func32, Tryz.ntmps32
    go_wp2_with (first | ((with_reducible refine gate_dst (N := 10) rfl ?_); (try (refine gate_guard (by rfl) ?_; dsimp only)); refine Kd.R_lit (Kd.int .u8) _ 5 ?hg (N := 10) ?hd (xs := ([] : List Int)) (inner := []) (ok := fun _ => True) (okp := fun _ => True) ?hr ?hp (fun _ hk => hk) trivial (Below.refl _ _) (Nat.le_refl _) (by simp) ?_; (case hd => rfl); (case hg => rfl); (case hr => first | (go_simp; done) | (go_simp; rfl)); (case hp => exact (Reps.none _ _)); intro v303 w3 ho4 hb hg_ hnew_; clear hg_ hnew_; (first | rw [← Ny302.out] at ho4 | (simp only [Int.reduceToNat] at ho4; rw [← Ny302.out] at ho4)); have n0_ := Aside0.mk (Kd.R_lower ho4 (below_size (by repeat (first | (with_reducible first | exact HB.out | apply below_alloc | apply pw_below_drewN | apply below_drew1) | exact HB.out)))); have n1_ := Aside0.mk (below_step (by repeat (first | (with_reducible first | exact HB.out | apply below_alloc | apply pw_below_drewN | apply below_drew1) | exact HB.out)) hb); clear HB; have HO304 := n0_; have HB := n1_; clear n0_ n1_; clear hb ho4))
    go_loopg [5, 6] k (fun kq v5 v6 w' => ∃ (x5_1 : List Int) (x6_1 : Int), v6 = .int .i64 x6_1 ∧ Aside0 (bulletinref15_FromLine.l0 kq a0 x5_1 x6_1 = some (r1, r2, r3)) ∧ Aside0 (kq ≤ k) ∧ Aside0 (Kd.R (Kd.int .u8) 5 w' w.heap.size (fun _ => True) v5 x5_1) ∧ Aside0 (Below w.heap.size w w'))
    case atStart => exact ⟨(y302), (0), (by first | rfl | (simp; done) | (simp [*]; done)), H', ⟨Nat.le_refl _⟩, ⟨by (with_reducible repeat (first | apply Kd.R_alloc | apply Kd.R_drewN | apply Kd.R_drew)); exact HO304.out⟩, ⟨by repeat (first | (with_reducible first | exact HB.out | apply below_alloc | apply pw_below_drewN | apply below_drew1) | exact HB.out)⟩⟩
    case round =>
      clear H'
      try clear c2
      try clear c2b0
      try clear c2b1
      try clear p2
      try clear c3
      obtain ⟨x5_1, x6_1, rfl, HA, HK1, HO_5, HB⟩ := hrel
      cases gk with
      | zero => exact absurd HA.out (by simp [bulletinref15_FromLine.l0])
      | succ k1 =>
        have H := HA.out
        clear HA
        simp only [bulletinref15_FromLine.l0] at H
        by_cases c5 : x6_1 < (a0.size : Int)
        · rw [if_pos c5] at H
          have c5b0 : decide (x6_1 < (a0.size : Int)) = true := decide_eq_true c5
          clear c5
          have HC6 := Aside0.mk H
          clear H
          go_upto_region 7 with (fail)
          go_cut [51] (fun v51 wc => ∃ (kq : Nat) (x51_5 : Bool), v51 = .bool x51_5 ∧ Aside0 (bulletinref15_FromLine.j1 kq a0 x5_1 x6_1 x51_5 = some (r1, r2, r3)) ∧ Aside0 (kq ≤ k1) ∧ Aside0 (Kd.R (Kd.int .u8) 5 wc w.heap.size (fun _ => True) u5 x5_1) ∧ Aside0 (Below w.heap.size w wc))
          case first =>
            have H := HC6.out
            clear HC6
            by_cases c7 : 0 ≤ x6_1
            · rw [if_pos c7] at H
              have c7b0 : decide (0 ≤ x6_1) = true := decide_eq_true c7
              clear c7
              (first | rw [c7b0] | (simp only [i64_w, i32_w]; rw [c7b0]) | skip)
              by_cases c9 : (bt a0 x6_1) = 13
              · rw [if_pos c9] at H
                have c9b0 : ((bt a0 x6_1) == 13) = true := beq_iff_eq.mpr c9
                have c9b1 : ((bt a0 x6_1) != 13) = false := bne_eq_false_iff_eq.mpr c9
                clear c9
                by_cases c10 : (wrap64 (x6_1 + 1)) = (a0.size : Int)
                · rw [if_pos c10] at H
                  have c10b0 : ((wrap64 (x6_1 + 1)) == (a0.size : Int)) = true := beq_iff_eq.mpr c10
                  have c10b1 : ((wrap64 (x6_1 + 1)) != (a0.size : Int)) = false := bne_eq_false_iff_eq.mpr c10
                  clear c10
                  have H' := Aside0.mk H
                  clear H
                  have p8 : 0 ≤ (x6_1 : Int) := of_decide_eq_true (by first | (with_reducible assumption) | assumption)
                  have q8 : x6_1 < (a0.size : Int) := of_decide_eq_true (by first | (with_reducible assumption) | assumption)
                  have hx8 := bt_at a0 x6_1
                  replace p8 := eq_true p8
                  replace q8 := eq_true q8
                  go_wp2
                  go_meet
                  case rel => exact ⟨_, (true), (by first | rfl | (simp; done) | (simp [*]; done)), H', ⟨by have := HK1.out; first | omega | exact Nat.le_refl _⟩, ⟨by (with_reducible repeat (first | apply Kd.R_alloc | apply Kd.R_drewN | apply Kd.R_drew)); exact HO_5.out⟩, ⟨by repeat (first | (with_reducible first | exact HB.out | apply below_alloc | apply pw_below_drewN | apply below_drew1) | exact HB.out)⟩⟩
                · rw [if_neg c10] at H
                  have c10b0 : ((wrap64 (x6_1 + 1)) == (a0.size : Int)) = false := beq_eq_false_iff_ne.mpr c10
                  have c10b1 : ((wrap64 (x6_1 + 1)) != (a0.size : Int)) = true := bne_iff_ne.mpr c10
                  obtain ⟨ji11, hji11⟩ : ∃ j_ : Int, (wrap64 (x6_1 + 1)) = j_ := ⟨_, rfl⟩
                  replace H : (if 0 ≤ (ji11) then (if (ji11) < (a0.size : Int) then (if (bt a0 (ji11)) = 10 then (if (bt a0 x6_1) = 10 then (if x6_1 = 0 then (bulletinref15_FromLine.j1 k1 a0 x5_1 x6_1 true) else (if 0 ≤ (wrap64 (x6_1 - 1)) then (if (wrap64 (x6_1 - 1)) < (a0.size : Int) then (bulletinref15_FromLine.j1 k1 a0 x5_1 x6_1 ((bt a0 (wrap64 (x6_1 - 1))) != 13)) else (none)) else (none))) else (bulletinref15_FromLine.j1 k1 a0 x5_1 x6_1 false)) else (bulletinref15_FromLine.j1 k1 a0 x5_1 x6_1 true)) else (none)) else (none)) = some (r1, r2, r3) := by first | (rw [hji11] at H; exact H) | (simp only [hji11] at H ⊢; exact H)
                  (try rw [hji11] at c10b0)
                  (try rw [hji11] at c10b1)
                  have hji11w : (IntKind.i64.wrap (x6_1 + 1)) = ji11 := (i64_w _).trans hji11
                  by_cases c12 : 0 ≤ (ji11)
                  · rw [if_pos c12] at H
                    have c12b0 : decide (0 ≤ (ji11)) = true := decide_eq_true c12
                    clear c12
                    by_cases c13 : (ji11) < (a0.size : Int)
                    · rw [if_pos c13] at H
                      have c13b0 : decide ((ji11) < (a0.size : Int)) = true := decide_eq_true c13
                      clear c13
                      by_cases c15 : (bt a0 (ji11)) = 10
                      · rw [if_pos c15] at H
                        have c15b0 : ((bt a0 (ji11)) == 10) = true := beq_iff_eq.mpr c15
                        have c15b1 : ((bt a0 (ji11)) != 10) = false := bne_eq_false_iff_eq.mpr c15
                        clear c15
                        by_cases c17 : (bt a0 x6_1) = 10
                        · rw [if_pos c17] at H
                          have c17b0 : ((bt a0 x6_1) == 10) = true := beq_iff_eq.mpr c17
                          have c17b1 : ((bt a0 x6_1) != 10) = false := bne_eq_false_iff_eq.mpr c17
                          clear c17
                          by_cases c18 : x6_1 = 0
                          · rw [if_pos c18] at H
                            have c18b0 : (x6_1 == 0) = true := beq_iff_eq.mpr c18
                            have c18b1 : (x6_1 != 0) = false := bne_eq_false_iff_eq.mpr c18
                            clear c18
                            have H' := Aside0.mk H
                            clear H
                            have p8 : 0 ≤ (x6_1 : Int) := of_decide_eq_true (by first | (with_reducible assumption) | assumption)
                            have q8 : x6_1 < (a0.size : Int) := of_decide_eq_true (by first | (with_reducible assumption) | assumption)
                            have hx8 := bt_at a0 x6_1
                            replace p8 := eq_true p8
                            replace q8 := eq_true q8
                            have p14 : 0 ≤ ((ji11) : Int) := of_decide_eq_true (by first | (with_reducible assumption) | assumption)
                            have q14 : (ji11) < (a0.size : Int) := of_decide_eq_true (by first | (with_reducible assumption) | assumption)
                            have hx14 := bt_at a0 (ji11)
                            replace p14 := eq_true p14
                            replace q14 := eq_true q14
                            have p16 : 0 ≤ (x6_1 : Int) := of_decide_eq_true (by first | (with_reducible assumption) | assumption)
                            have q16 : x6_1 < (a0.size : Int) := of_decide_eq_true (by first | (with_reducible assumption) | assumption)
                            have hx16 := bt_at a0 x6_1
                            replace p16 := eq_true p16
                            replace q16 := eq_true q16
                            go_wp2
                            go_meet
                            case rel => exact ⟨_, (true), (by first | rfl | (simp; done) | (simp [*]; done)), H', ⟨by have := HK1.out; first | omega | exact Nat.le_refl _⟩, ⟨by (with_reducible repeat (first | apply Kd.R_alloc | apply Kd.R_drewN | apply Kd.R_drew)); exact HO_5.out⟩, ⟨by repeat (first | (with_reducible first | exact HB.out | apply below_alloc | apply pw_below_drewN | apply below_drew1) | exact HB.out)⟩⟩
                          · rw [if_neg c18] at H
                            have c18b0 : (x6_1 == 0) = false := beq_eq_false_iff_ne.mpr c18
                            have c18b1 : (x6_1 != 0) = true := bne_iff_ne.mpr c18
                            obtain ⟨ji19, hji19⟩ : ∃ j_ : Int, (wrap64 (x6_1 - 1)) = j_ := ⟨_, rfl⟩
                            replace H : (if 0 ≤ (ji19) then (if (ji19) < (a0.size : Int) then (bulletinref15_FromLine.j1 k1 a0 x5_1 x6_1 ((bt a0 (ji19)) != 13)) else (none)) else (none)) = some (r1, r2, r3) := by first | (rw [hji19] at H; exact H) | (simp only [hji19] at H ⊢; exact H)
                            have hji19w : (IntKind.i64.wrap (x6_1 - 1)) = ji19 := (i64_w _).trans hji19
                            by_cases c20 : 0 ≤ (ji19)
                            · rw [if_pos c20] at H
                              have c20b0 : decide (0 ≤ (ji19)) = true := decide_eq_true c20
                              clear c20
                              by_cases c21 : (ji19) < (a0.size : Int)
                              · rw [if_pos c21] at H
                                have c21b0 : decide ((ji19) < (a0.size : Int)) = true := decide_eq_true c21
                                clear c21
                                have H' := Aside0.mk H
                                clear H
                                have p8 : 0 ≤ (x6_1 : Int) := of_decide_eq_true (by first | (with_reducible assumption) | assumption)
                                have q8 : x6_1 < (a0.size : Int) := of_decide_eq_true (by first | (with_reducible assumption) | assumption)
                                have hx8 := bt_at a0 x6_1
                                replace p8 := eq_true p8
                                replace q8 := eq_true q8
                                have p14 : 0 ≤ ((ji11) : Int) := of_decide_eq_true (by first | (with_reducible assumption) | assumption)
                                have q14 : (ji11) < (a0.size : Int) := of_decide_eq_true (by first | (with_reducible assumption) | assumption)
                                have hx14 := bt_at a0 (ji11)
                                replace p14 := eq_true p14
                                replace q14 := eq_true q14
                                have p16 : 0 ≤ (x6_1 : Int) := of_decide_eq_true (by first | (with_reducible assumption) | assumption)
                                have q16 : x6_1 < (a0.size : Int) := of_decide_eq_true (by first | (with_reducible assumption) | assumption)
                                have hx16 := bt_at a0 x6_1
                                replace p16 := eq_true p16
                                replace q16 := eq_true q16
                                have p22 : 0 ≤ ((ji19) : Int) := of_decide_eq_true (by first | (with_reducible assumption) | assumption)
                                have q22 : (ji19) < (a0.size : Int) := of_decide_eq_true (by first | (with_reducible assumption) | assumption)
                                have hx22 := bt_at a0 (ji19)
                                replace p22 := eq_true p22
                                replace q22 := eq_true q22
                                go_wp2
                                go_meet
                                case rel => exact ⟨_, (((bt a0 (ji19)) != 13)), (by first | rfl | (simp; done) | (simp only [← hji19] <;> (first | rfl | simp)) | (simp [*]; done)), H', ⟨by have := HK1.out; first | omega | exact Nat.le_refl _⟩, ⟨by (with_reducible repeat (first | apply Kd.R_alloc | apply Kd.R_drewN | apply Kd.R_drew)); exact HO_5.out⟩, ⟨by repeat (first | (with_reducible first | exact HB.out | apply below_alloc | apply pw_below_drewN | apply below_drew1) | exact HB.out)⟩⟩
                              · rw [if_neg c21] at H
                                exact absurd H (by simp)
                            · rw [if_neg c20] at H
                              exact absurd H (by simp)
                        · rw [if_neg c17] at H
                          have c17b0 : ((bt a0 x6_1) == 10) = false := beq_eq_false_iff_ne.mpr c17
                          have c17b1 : ((bt a0 x6_1) != 10) = true := bne_iff_ne.mpr c17
                          have H' := Aside0.mk H
                          clear H
                          have p8 : 0 ≤ (x6_1 : Int) := of_decide_eq_true (by first | (with_reducible assumption) | assumption)
                          have q8 : x6_1 < (a0.size : Int) := of_decide_eq_true (by first | (with_reducible assumption) | assumption)
                          have hx8 := bt_at a0 x6_1
                          replace p8 := eq_true p8
                          replace q8 := eq_true q8
                          have p14 : 0 ≤ ((ji11) : Int) := of_decide_eq_true (by first | (with_reducible assumption) | assumption)
                          have q14 : (ji11) < (a0.size : Int) := of_decide_eq_true (by first | (with_reducible assumption) | assumption)
                          have hx14 := bt_at a0 (ji11)
                          replace p14 := eq_true p14
                          replace q14 := eq_true q14
                          have p16 : 0 ≤ (x6_1 : Int) := of_decide_eq_true (by first | (with_reducible assumption) | assumption)
                          have q16 : x6_1 < (a0.size : Int) := of_decide_eq_true (by first | (with_reducible assumption) | assumption)
                          have hx16 := bt_at a0 x6_1
                          replace p16 := eq_true p16
                          replace q16 := eq_true q16
                          go_wp2
                          go_meet
                          case rel => exact ⟨_, (false), (by first | rfl | (simp; done) | (simp [*]; done)), H', ⟨by have := HK1.out; first | omega | exact Nat.le_refl _⟩, ⟨by (with_reducible repeat (first | apply Kd.R_alloc | apply Kd.R_drewN | apply Kd.R_drew)); exact HO_5.out⟩, ⟨by repeat (first | (with_reducible first | exact HB.out | apply below_alloc | apply pw_below_drewN | apply below_drew1) | exact HB.out)⟩⟩
                      · rw [if_neg c15] at H
                        have c15b0 : ((bt a0 (ji11)) == 10) = false := beq_eq_false_iff_ne.mpr c15
                        have c15b1 : ((bt a0 (ji11)) != 10) = true := bne_iff_ne.mpr c15
                        have H' := Aside0.mk H
                        clear H
                        have p8 : 0 ≤ (x6_1 : Int) := of_decide_eq_true (by first | (with_reducible assumption) | assumption)
                        have q8 : x6_1 < (a0.size : Int) := of_decide_eq_true (by first | (with_reducible assumption) | assumption)
                        have hx8 := bt_at a0 x6_1
                        replace p8 := eq_true p8
                        replace q8 := eq_true q8
                        have p14 : 0 ≤ ((ji11) : Int) := of_decide_eq_true (by first | (with_reducible assumption) | assumption)
                        have q14 : (ji11) < (a0.size : Int) := of_decide_eq_true (by first | (with_reducible assumption) | assumption)
                        have hx14 := bt_at a0 (ji11)
                        replace p14 := eq_true p14
                        replace q14 := eq_true q14
                        go_wp2
                        go_meet
                        case rel => exact ⟨_, (true), (by first | rfl | (simp; done) | (simp [*]; done)), H', ⟨by have := HK1.out; first | omega | exact Nat.le_refl _⟩, ⟨by (with_reducible repeat (first | apply Kd.R_alloc | apply Kd.R_drewN | apply Kd.R_drew)); exact HO_5.out⟩, ⟨by repeat (first | (with_reducible first | exact HB.out | apply below_alloc | apply pw_below_drewN | apply below_drew1) | exact HB.out)⟩⟩
                    · rw [if_neg c13] at H
                      exact absurd H (by simp)
                  · rw [if_neg c12] at H
                    exact absurd H (by simp)
              · rw [if_neg c9] at H
                have c9b0 : ((bt a0 x6_1) == 13) = false := beq_eq_false_iff_ne.mpr c9
                have c9b1 : ((bt a0 x6_1) != 13) = true := bne_iff_ne.mpr c9
                by_cases c24 : (bt a0 x6_1) = 10
                · rw [if_pos c24] at H
                  have c24b0 : ((bt a0 x6_1) == 10) = true := beq_iff_eq.mpr c24
                  have c24b1 : ((bt a0 x6_1) != 10) = false := bne_eq_false_iff_eq.mpr c24
                  clear c24
                  by_cases c25 : x6_1 = 0
                  · rw [if_pos c25] at H
                    have c25b0 : (x6_1 == 0) = true := beq_iff_eq.mpr c25
                    have c25b1 : (x6_1 != 0) = false := bne_eq_false_iff_eq.mpr c25
                    clear c25
                    have H' := Aside0.mk H
                    clear H
                    have p8 : 0 ≤ (x6_1 : Int) := of_decide_eq_true (by first | (with_reducible assumption) | assumption)
                    have q8 : x6_1 < (a0.size : Int) := of_decide_eq_true (by first | (with_reducible assumption) | assumption)
                    have hx8 := bt_at a0 x6_1
                    replace p8 := eq_true p8
                    replace q8 := eq_true q8
                    have p23 : 0 ≤ (x6_1 : Int) := of_decide_eq_true (by first | (with_reducible assumption) | assumption)
                    have q23 : x6_1 < (a0.size : Int) := of_decide_eq_true (by first | (with_reducible assumption) | assumption)
                    have hx23 := bt_at a0 x6_1
                    replace p23 := eq_true p23
                    replace q23 := eq_true q23
                    go_wp2
                    go_meet
                    case rel => exact ⟨_, (true), (by first | rfl | (simp; done) | (simp [*]; done)), H', ⟨by have := HK1.out; first | omega | exact Nat.le_refl _⟩, ⟨by (with_reducible repeat (first | apply Kd.R_alloc | apply Kd.R_drewN | apply Kd.R_drew)); exact HO_5.out⟩, ⟨by repeat (first | (with_reducible first | exact HB.out | apply below_alloc | apply pw_below_drewN | apply below_drew1) | exact HB.out)⟩⟩
                  · rw [if_neg c25] at H
                    have c25b0 : (x6_1 == 0) = false := beq_eq_false_iff_ne.mpr c25
                    have c25b1 : (x6_1 != 0) = true := bne_iff_ne.mpr c25
                    obtain ⟨ji26, hji26⟩ : ∃ j_ : Int, (wrap64 (x6_1 - 1)) = j_ := ⟨_, rfl⟩
                    replace H : (if 0 ≤ (ji26) then (if (ji26) < (a0.size : Int) then (bulletinref15_FromLine.j1 k1 a0 x5_1 x6_1 ((bt a0 (ji26)) != 13)) else (none)) else (none)) = some (r1, r2, r3) := by first | (rw [hji26] at H; exact H) | (simp only [hji26] at H ⊢; exact H)
                    have hji26w : (IntKind.i64.wrap (x6_1 - 1)) = ji26 := (i64_w _).trans hji26
                    by_cases c27 : 0 ≤ (ji26)
                    · rw [if_pos c27] at H
                      have c27b0 : decide (0 ≤ (ji26)) = true := decide_eq_true c27
                      clear c27
                      by_cases c28 : (ji26) < (a0.size : Int)
                      · rw [if_pos c28] at H
                        have c28b0 : decide ((ji26) < (a0.size : Int)) = true := decide_eq_true c28
                        clear c28
                        have H' := Aside0.mk H
                        clear H
                        have p8 : 0 ≤ (x6_1 : Int) := of_decide_eq_true (by first | (with_reducible assumption) | assumption)
                        have q8 : x6_1 < (a0.size : Int) := of_decide_eq_true (by first | (with_reducible assumption) | assumption)
                        have hx8 := bt_at a0 x6_1
                        replace p8 := eq_true p8
                        replace q8 := eq_true q8
                        have p23 : 0 ≤ (x6_1 : Int) := of_decide_eq_true (by first | (with_reducible assumption) | assumption)
                        have q23 : x6_1 < (a0.size : Int) := of_decide_eq_true (by first | (with_reducible assumption) | assumption)
                        have hx23 := bt_at a0 x6_1
                        replace p23 := eq_true p23
                        replace q23 := eq_true q23
                        have p29 : 0 ≤ ((ji26) : Int) := of_decide_eq_true (by first | (with_reducible assumption) | assumption)
                        have q29 : (ji26) < (a0.size : Int) := of_decide_eq_true (by first | (with_reducible assumption) | assumption)
                        have hx29 := bt_at a0 (ji26)
                        replace p29 := eq_true p29
                        replace q29 := eq_true q29
                        go_wp2
                        go_meet
                        case rel => exact ⟨_, (((bt a0 (ji26)) != 13)), (by first | rfl | (simp; done) | (simp only [← hji26] <;> (first | rfl | simp)) | (simp [*]; done)), H', ⟨by have := HK1.out; first | omega | exact Nat.le_refl _⟩, ⟨by (with_reducible repeat (first | apply Kd.R_alloc | apply Kd.R_drewN | apply Kd.R_drew)); exact HO_5.out⟩, ⟨by repeat (first | (with_reducible first | exact HB.out | apply below_alloc | apply pw_below_drewN | apply below_drew1) | exact HB.out)⟩⟩
                      · rw [if_neg c28] at H
                        exact absurd H (by simp)
                    · rw [if_neg c27] at H
                      exact absurd H (by simp)
                · rw [if_neg c24] at H
                  have c24b0 : ((bt a0 x6_1) == 10) = false := beq_eq_false_iff_ne.mpr c24
                  have c24b1 : ((bt a0 x6_1) != 10) = true := bne_iff_ne.mpr c24
                  have H' := Aside0.mk H
                  clear H
                  have p8 : 0 ≤ (x6_1 : Int) := of_decide_eq_true (by first | (with_reducible assumption) | assumption)
                  have q8 : x6_1 < (a0.size : Int) := of_decide_eq_true (by first | (with_reducible assumption) | assumption)
                  have hx8 := bt_at a0 x6_1
                  replace p8 := eq_true p8
                  replace q8 := eq_true q8
                  have p23 : 0 ≤ (x6_1 : Int) := of_decide_eq_true (by first | (with_reducible assumption) | assumption)
                  have q23 : x6_1 < (a0.size : Int) := of_decide_eq_true (by first | (with_reducible assumption) | assumption)
                  have hx23 := bt_at a0 x6_1
                  replace p23 := eq_true p23
                  replace q23 := eq_true q23
                  go_wp2
                  go_meet
                  case rel => exact ⟨_, (false), (by first | rfl | (simp; done) | (simp [*]; done)), H', ⟨by have := HK1.out; first | omega | exact Nat.le_refl _⟩, ⟨by (with_reducible repeat (first | apply Kd.R_alloc | apply Kd.R_drewN | apply Kd.R_drew)); exact HO_5.out⟩, ⟨by repeat (first | (with_reducible first | exact HB.out | apply below_alloc | apply pw_below_drewN | apply below_drew1) | exact HB.out)⟩⟩
            · rw [if_neg c7] at H
              exact absurd H (by simp)
          case rest =>
            clear HC6
            try clear c1
            try clear p1
            try clear q1
            try clear hx1
            try clear c2
            try clear c2b0
            try clear c2b1
            try clear p2
            try clear q2
            try clear hx2
            try clear c3
            try clear c5
            try clear c5b0
            try clear p6
            try clear c7
            try clear c7b0
            try clear p8
            try clear q8
            try clear hx8
            try clear c9
            try clear c9b0
            try clear c9b1
            try clear c10
            try clear c10b0
            try clear c10b1
            try clear c12
            try clear c12b0
            try clear c13
            try clear c13b0
            try clear p14
            try clear q14
            try clear hx14
            try clear c15
            try clear c15b0
            try clear c15b1
            try clear p16
            try clear q16
            try clear hx16
            try clear c17
            try clear c17b0
            try clear c17b1
            try clear c18
            try clear c18b0
            try clear c18b1
            try clear c20
            try clear c20b0
            try clear c21
            try clear c21b0
            try clear p22
            try clear q22
            try clear hx22
            try clear p23
            try clear q23
            try clear hx23
            try clear c24
            try clear c24b0
            try clear c24b1
            try clear c25
            try clear c25b0
            try clear c25b1
            try clear c27
            try clear c27b0
            try clear c28
            try clear c28b0
            try clear p29
            try clear q29
            try clear hx29
            try clear p14
            try clear p16
            try clear p2
            try clear p22
            try clear p23
            try clear p29
            try clear p8
            try clear q14
            try clear q16
            try clear q22
            try clear q23
            try clear q29
            try clear q8
            obtain ⟨kq, x51_5, rfl, HA, HJ5, HO_5, HB⟩ := hcut
            cases kq with
            | zero => exact absurd HA.out (by simp [bulletinref15_FromLine.j1])
            | succ kj5 =>
              have H := HA.out
              clear HA
              simp only [bulletinref15_FromLine.j1] at H
              by_cases c30 : x51_5 = true
              · subst c30
                have H1 : (some ((⟨#[]⟩ : ByteArray), x6_1, 3)) = some (r1, r2, r3) := by rw [if_pos rfl] at H; exact H
                clear H
                have H := H1
                clear H1
                simp only [Option.some.injEq, Prod.mk.injEq] at H
                obtain ⟨rfl, rfl, rfl⟩ := H
                go_wp2
                go_ret3
                exact ⟨by first | rfl | (simp [errW_none, errW_some] <;> rfl) | (simp [*, errW_none, errW_some] <;> rfl), by repeat (first | (with_reducible first | exact HB.out | apply below_alloc | apply pw_below_drewN | apply below_drew1) | exact HB.out)⟩
              · replace c30 := Bool.eq_false_iff.mpr c30
                subst c30
                have H1 : (if 0 ≤ x6_1 then (if x6_1 < (a0.size : Int) then (if (bt a0 x6_1) = 13 then (bulletinref15_FromLine.l0 kj5 a0 x5_1 (wrap64 (x6_1 + 1))) else (if x5_1.length < 140737488355328 then (bulletinref15_FromLine.l0 kj5 a0 (x5_1 ++ [bt a0 x6_1]) (wrap64 (x6_1 + 1))) else (none))) else (none)) else (none)) = some (r1, r2, r3) := by rw [if_neg (show ¬ (false = true) by decide)] at H; exact H
                clear H
                have H := H1
                clear H1
                by_cases c31 : 0 ≤ x6_1
                · rw [if_pos c31] at H
                  have c31b0 : decide (0 ≤ x6_1) = true := decide_eq_true c31
                  clear c31
                  by_cases c32 : x6_1 < (a0.size : Int)
                  · rw [if_pos c32] at H
                    have c32b0 : decide (x6_1 < (a0.size : Int)) = true := decide_eq_true c32
                    clear c32
                    by_cases c34 : (bt a0 x6_1) = 13
                    · rw [if_pos c34] at H
                      have c34b0 : ((bt a0 x6_1) == 13) = true := beq_iff_eq.mpr c34
                      have c34b1 : ((bt a0 x6_1) != 13) = false := bne_eq_false_iff_eq.mpr c34
                      clear c34
                      have H' := Aside0.mk H
                      clear H
                      have p33 : 0 ≤ (x6_1 : Int) := of_decide_eq_true (by first | (with_reducible assumption) | assumption)
                      have q33 : x6_1 < (a0.size : Int) := of_decide_eq_true (by first | (with_reducible assumption) | assumption)
                      have hx33 := bt_at a0 x6_1
                      replace p33 := eq_true p33
                      replace q33 := eq_true q33
                      go_wp2
                      go_roundg kj5
                      case measure => have := HK1.out; have := HJ5.out; omega
                      case rel => exact ⟨(x5_1), (wrap64 (x6_1 + 1)), (by first | rfl | (simp; done) | (simp [*]; done)), H', ⟨by have := HK1.out; have := HJ5.out; omega⟩, ⟨by (with_reducible repeat (first | apply Kd.R_alloc | apply Kd.R_drewN | apply Kd.R_drew)); exact HO_5.out⟩, ⟨by repeat (first | (with_reducible first | exact HB.out | apply below_alloc | apply pw_below_drewN | apply below_drew1) | exact HB.out)⟩⟩
                    · rw [if_neg c34] at H
                      have c34b0 : ((bt a0 x6_1) == 13) = false := beq_eq_false_iff_ne.mpr c34
                      have c34b1 : ((bt a0 x6_1) != 13) = true := bne_iff_ne.mpr c34
                      by_cases c36 : x5_1.length < 140737488355328
                      · rw [if_pos c36] at H
                        have LMc36 := Aside0.mk c36
                        clear c36
                        obtain ⟨y305, hy305⟩ : ∃ y_ : List Int, y_ = (x5_1 ++ [bt a0 x6_1]) := ⟨_, rfl⟩
                        replace H : (bulletinref15_FromLine.l0 kj5 a0 y305 (wrap64 (x6_1 + 1))) = some (r1, r2, r3) := by first | (rw [hy305]; with_reducible exact H) | (have H2_ := (Option.bind_some _ _).symm.trans H; rw [hy305]; with_reducible exact H2_) | (have H2_ := (Option.bind_some _ _).symm.trans H; with_reducible exact H2_) | with_reducible exact H | (rw [hy305]; exact H) | exact H
                        have Ny305 := Aside0.mk hy305
                        clear hy305
                        have H' := Aside0.mk H
                        clear H
                        have p33 : 0 ≤ (x6_1 : Int) := of_decide_eq_true (by first | (with_reducible assumption) | assumption)
                        have q33 : x6_1 < (a0.size : Int) := of_decide_eq_true (by first | (with_reducible assumption) | assumption)
                        have hx33 := bt_at a0 x6_1
                        replace p33 := eq_true p33
                        replace q33 := eq_true q33
                        have p35 : 0 ≤ (x6_1 : Int) := of_decide_eq_true (by first | (with_reducible assumption) | assumption)
                        have q35 : x6_1 < (a0.size : Int) := of_decide_eq_true (by first | (with_reducible assumption) | assumption)
                        have hx35 := bt_at a0 x6_1
                        replace p35 := eq_true p35
                        replace q35 := eq_true q35
                        go_wp2_with (first | ((with_reducible refine gate_builtin (b := .append) (xs := #[.tmp 57, .tmp 61]) rfl ?_); (try (refine gate_guard (by rfl) ?_; dsimp only)); at_builtin; refine Kd.R_append (Kd.int .u8) (w0 := w) w.heap.size rfl (.tmp 57) (.tmp 61) 44 5 (.int .u8 0) 1 rfl Tryz.underlying44 info5 rfl (by decide) (by omega) u5 x5_1 (bt a0 x6_1) [.int .u8 (bt a0 x6_1)] (fun _ => True) (fun _ => False) rfl rfl ?aP (fun _ hk => hk.elim) ?aF ?aO ?aB ?aS ?aL ?_; (case aP => exact rfl); (case aB => exact (by repeat (first | (with_reducible first | exact HB.out | apply below_alloc | apply pw_below_drewN | apply below_drew1) | exact HB.out))); (case aF => exact (fun _ _ => trivial)); (case aO => exact (by (with_reducible repeat (first | apply Kd.R_alloc | apply Kd.R_drewN | apply Kd.R_drew)); exact HO_5.out)); (case aS => exact (below_size (by repeat (first | (with_reducible first | exact HB.out | apply below_alloc | apply pw_below_drewN | apply below_drew1) | exact HB.out)))); (case aL => have := LMc36.out; omega); intro v306 w37 ho hb hg hat; rw [← Ny305.out] at ho; have n0_ := Aside0.mk (hb); have n1_ := Aside0.mk (ho); clear HB; clear HO_5; have HB := n0_; have HO307 := n1_; clear n0_ n1_; clear ho hb hg hat))
                        go_roundg kj5
                        case measure => have := HK1.out; have := HJ5.out; omega
                        case rel => exact ⟨(y305), (wrap64 (x6_1 + 1)), (by first | rfl | (simp; done) | (simp [*]; done)), H', ⟨by have := HK1.out; have := HJ5.out; omega⟩, ⟨by (with_reducible repeat (first | apply Kd.R_alloc | apply Kd.R_drewN | apply Kd.R_drew)); exact HO307.out⟩, ⟨by repeat (first | (with_reducible first | exact HB.out | apply below_alloc | apply pw_below_drewN | apply below_drew1) | exact HB.out)⟩⟩
                      · rw [if_neg c36] at H
                        exact absurd H (by simp)
                  · rw [if_neg c32] at H
                    exact absurd H (by simp)
                · rw [if_neg c31] at H
                  exact absurd H (by simp)
        · rw [if_neg c5] at H
          have c5b0 : decide (x6_1 < (a0.size : Int)) = false := decide_eq_false c5
          clear c5
          have HC38 := Aside0.mk H
          clear H
          go_upto_region 11 with (fail)
          go_cut [72] (fun v72 wc => ∃ (kq : Nat) (x72_37 : Bool), v72 = .bool x72_37 ∧ Aside0 (bulletinref15_FromLine.j2 kq a0 x5_1 x72_37 = some (r1, r2, r3)) ∧ Aside0 (kq ≤ k1) ∧ Aside0 (Kd.R (Kd.int .u8) 5 wc w.heap.size (fun _ => True) u5 x5_1) ∧ Aside0 (Below w.heap.size w wc))
          case first =>
            have H := HC38.out
            clear HC38
            by_cases c39 : a0.toList = ([] : List UInt8)
            · rw [if_pos c39] at H
              have c39b0 : (a0.toList == ([] : List UInt8)) = true := beq_iff_eq.mpr c39
              have c39b1 : (a0.toList != ([] : List UInt8)) = false := bne_eq_false_iff_eq.mpr c39
              clear c39
              (first | rw [c39b0] | (simp only [i64_w, i32_w]; rw [c39b0]) | skip)
              have H' := Aside0.mk H
              clear H
              go_wp2
              go_meet
              case rel => exact ⟨_, (false), (by first | rfl | (simp; done) | (simp [*]; done)), H', ⟨by have := HK1.out; first | omega | exact Nat.le_refl _⟩, ⟨by (with_reducible repeat (first | apply Kd.R_alloc | apply Kd.R_drewN | apply Kd.R_drew)); exact HO_5.out⟩, ⟨by repeat (first | (with_reducible first | exact HB.out | apply below_alloc | apply pw_below_drewN | apply below_drew1) | exact HB.out)⟩⟩
            · rw [if_neg c39] at H
              have c39b0 : (a0.toList == ([] : List UInt8)) = false := beq_eq_false_iff_ne.mpr c39
              have c39b1 : (a0.toList != ([] : List UInt8)) = true := bne_iff_ne.mpr c39
              (first | rw [c39b0] | (simp only [i64_w, i32_w]; rw [c39b0]) | skip)
              obtain ⟨ji40, hji40⟩ : ∃ j_ : Int, (wrap64 ((a0.size : Int) - 1)) = j_ := ⟨_, rfl⟩
              replace H : (if 0 ≤ (ji40) then (if (ji40) < (a0.size : Int) then (bulletinref15_FromLine.j2 k1 a0 x5_1 ((bt a0 (ji40)) != 10)) else (none)) else (none)) = some (r1, r2, r3) := by first | (rw [hji40] at H; exact H) | (simp only [hji40] at H ⊢; exact H)
              have hji40w : (IntKind.i64.wrap ((a0.size : Int) - 1)) = ji40 := (i64_w _).trans hji40
              by_cases c41 : 0 ≤ (ji40)
              · rw [if_pos c41] at H
                have c41b0 : decide (0 ≤ (ji40)) = true := decide_eq_true c41
                clear c41
                by_cases c42 : (ji40) < (a0.size : Int)
                · rw [if_pos c42] at H
                  have c42b0 : decide ((ji40) < (a0.size : Int)) = true := decide_eq_true c42
                  clear c42
                  have H' := Aside0.mk H
                  clear H
                  have p43 : 0 ≤ ((ji40) : Int) := of_decide_eq_true (by first | (with_reducible assumption) | assumption)
                  have q43 : (ji40) < (a0.size : Int) := of_decide_eq_true (by first | (with_reducible assumption) | assumption)
                  have hx43 := bt_at a0 (ji40)
                  replace p43 := eq_true p43
                  replace q43 := eq_true q43
                  go_wp2
                  go_meet
                  case rel => exact ⟨_, (((bt a0 (ji40)) != 10)), (by first | rfl | (simp; done) | (simp only [← hji40] <;> (first | rfl | simp)) | (simp [*]; done)), H', ⟨by have := HK1.out; first | omega | exact Nat.le_refl _⟩, ⟨by (with_reducible repeat (first | apply Kd.R_alloc | apply Kd.R_drewN | apply Kd.R_drew)); exact HO_5.out⟩, ⟨by repeat (first | (with_reducible first | exact HB.out | apply below_alloc | apply pw_below_drewN | apply below_drew1) | exact HB.out)⟩⟩
                · rw [if_neg c42] at H
                  exact absurd H (by simp)
              · rw [if_neg c41] at H
                exact absurd H (by simp)
          case rest =>
            clear HC38
            try clear c1
            try clear p1
            try clear q1
            try clear hx1
            try clear c2
            try clear c2b0
            try clear c2b1
            try clear p2
            try clear q2
            try clear hx2
            try clear c3
            try clear p3
            try clear q3
            try clear hx3
            try clear c4
            try clear p4
            try clear q4
            try clear hx4
            try clear c5
            try clear c5b0
            try clear p6
            try clear c7
            try clear c7b0
            try clear p8
            try clear q8
            try clear hx8
            try clear c9
            try clear c9b0
            try clear c9b1
            try clear c10
            try clear c10b0
            try clear c10b1
            try clear c12
            try clear c12b0
            try clear c13
            try clear c13b0
            try clear p14
            try clear q14
            try clear hx14
            try clear c15
            try clear c15b0
            try clear c15b1
            try clear p16
            try clear q16
            try clear hx16
            try clear c17
            try clear c17b0
            try clear c17b1
            try clear c18
            try clear c18b0
            try clear c18b1
            try clear c20
            try clear c20b0
            try clear c21
            try clear c21b0
            try clear p22
            try clear q22
            try clear hx22
            try clear p23
            try clear q23
            try clear hx23
            try clear c24
            try clear c24b0
            try clear c24b1
            try clear c25
            try clear c25b0
            try clear c25b1
            try clear c27
            try clear c27b0
            try clear c28
            try clear c28b0
            try clear p29
            try clear q29
            try clear hx29
            try clear c30
            try clear c31
            try clear c31b0
            try clear c32
            try clear c32b0
            try clear p33
            try clear q33
            try clear hx33
            try clear c34
            try clear c34b0
            try clear c34b1
            try clear p35
            try clear q35
            try clear hx35
            try clear c36
            try clear c39
            try clear c39b0
            try clear c39b1
            try clear c41
            try clear c41b0
            try clear c42
            try clear c42b0
            try clear p43
            try clear q43
            try clear hx43
            try clear p1
            try clear p14
            try clear p16
            try clear p2
            try clear p22
            try clear p23
            try clear p29
            try clear p33
            try clear p35
            try clear p43
            try clear p6
            try clear p8
            try clear q1
            try clear q14
            try clear q16
            try clear q2
            try clear q22
            try clear q23
            try clear q29
            try clear q33
            try clear q35
            try clear q43
            try clear q8
            obtain ⟨kq, x72_37, rfl, HA, HJ37, HO_5, HB⟩ := hcut
            cases kq with
            | zero => exact absurd HA.out (by simp [bulletinref15_FromLine.j2])
            | succ kj37 =>
              have H := HA.out
              clear HA
              simp only [bulletinref15_FromLine.j2] at H
              by_cases c44 : x72_37 = true
              · subst c44
                have H1 : (some ((⟨#[]⟩ : ByteArray), (a0.size : Int), 4)) = some (r1, r2, r3) := by rw [if_pos rfl] at H; exact H
                clear H
                have H := H1
                clear H1
                simp only [Option.some.injEq, Prod.mk.injEq] at H
                obtain ⟨rfl, rfl, rfl⟩ := H
                go_wp2
                go_ret3
                exact ⟨by first | rfl | (simp [errW_none, errW_some] <;> rfl) | (simp [*, errW_none, errW_some] <;> rfl), by repeat (first | (with_reducible first | exact HB.out | apply below_alloc | apply pw_below_drewN | apply below_drew1) | exact HB.out)⟩
              · replace c44 := Bool.eq_false_iff.mpr c44
                subst c44
                have H1 : (if (x5_1.length : Int) > 65536 then (some ((⟨#[]⟩ : ByteArray), 0, 5)) else (some (strOfNums x5_1, 0, 0))) = some (r1, r2, r3) := by rw [if_neg (show ¬ (false = true) by decide)] at H; exact H
                clear H
                have H := H1
                clear H1
                by_cases c45 : (x5_1.length : Int) > 65536
                · rw [if_pos c45] at H
                  have c45b0 : decide (65536 < (x5_1.length : Int)) = true := decide_eq_true c45
                  have c45b1 : decide (65536 < x5_1.length) = true := decide_eq_true (by omega)
                  clear c45
                  simp only [Option.some.injEq, Prod.mk.injEq] at H
                  obtain ⟨rfl, rfl, rfl⟩ := H
                  obtain ⟨Ao46, co46, eo46⟩ := Kd.R_slice HO_5.out
                  subst eo46
                  go_wp2
                  go_ret3
                  exact ⟨by first | rfl | (simp [errW_none, errW_some] <;> rfl) | (simp [*, errW_none, errW_some] <;> rfl), by repeat (first | (with_reducible first | exact HB.out | apply below_alloc | apply pw_below_drewN | apply below_drew1) | exact HB.out)⟩
                · rw [if_neg c45] at H
                  have c45b0 : decide (65536 < (x5_1.length : Int)) = false := decide_eq_false c45
                  have c45b1 : decide (65536 < x5_1.length) = false := decide_eq_false (by omega)
                  clear c45
                  simp only [Option.some.injEq, Prod.mk.injEq] at H
                  obtain ⟨rfl, rfl, rfl⟩ := H
                  obtain ⟨Ao47, co47, eo47⟩ := Kd.R_slice HO_5.out
                  subst eo47
                  have hcv48 := own_string (P := Tryz.prog) Tryz.underlying44 Tryz.underlying5 Tryz.underlying9 (Kd.own_of_R HO_5.out)
                  go_wp2
                  go_ret3
                  exact ⟨by first | rfl | (simp [errW_none, errW_some] <;> rfl) | (simp [*, errW_none, errW_some] <;> rfl), by repeat (first | (with_reducible first | exact HB.out | apply below_alloc | apply pw_below_drewN | apply below_drew1) | exact HB.out)⟩

-- NOT PRINTED: function 10 (bulletinlaw15_ArticleFromLine)

end Go.Proofs.YtfeciafdioepiaaGreatDoor.PA
