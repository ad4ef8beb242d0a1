/- The steps of article's parser.; The steps of article's parser: the header.; Article's Parse.; A law for a loop over an iterator, at the wide fence: the iterator says how it m; WriteString in a loop over an iterator: the machine's own objects stay.; The contract of article's Strip over this translation.; The contract of article's Quote over this translation. -/
import Derived.Test.YtfeciafdioepiaaGreatDoorHPsS9
import Derived.Test.YtfeciafdioepiaaGreatDoorHPsS6
import Derived.Test.YtfeciafdioepiaaGreatDoorProg
import Derived.Below
import Derived.Deep.Draws
import Derived.Deep.AppendLies
import Derived.Maps.AppendAt
import Derived.OwnWalk
import Derived.Laws.BytesArg
import Derived.Laws.MakeOwn
import Derived.Laws.OwnMore
import Derived.Deep.OwnRows
import Derived.Tactics
import Derived.Lib.ConvBytes
import Derived.Laws.Slices
import Derived.WalkKit
import Derived.KernelRfl
import Derived.RowKit3
import Derived.Deep.LoopGhost
import Derived.Deep.QuietTactic
import Derived.BigQuiet
import Derived.WideLaws
import Derived.Deep.DeepCutAuto
import Derived.Deep.CutBlock
import Derived.Deep.RegionHeld3
import Derived.Laws.Rows
import Derived.Lib.AppendStr
import Derived.ArgAppend
import Derived.Laws.IdiomCopy
import Derived.OrdersHeld
import Derived.Laws.BitsLemmas
import Derived.RowKit
import Derived.Test.YtfeciafdioepiaaGreatDoorHPsS8
import Derived.Test.YtfeciafdioepiaaGreatDoorHPsS0
import Derived.Test.YtfeciafdioepiaaGreatDoorHPsS1
import Derived.Laws.StructEq
import Derived.Deep.RegionWith
import Derived.RangeFuncFrom
import Derived.RangeFuncCalls
import Derived.Shelf.Abstract
import Derived.Shelf.RegionOpen
import Derived.OwnWalkIn
import Derived.TacticsInMore
import Derived.LoopNIn
import Derived.LoopIn
import Derived.Test.YtfeciafdioepiaaGreatDoorHPsS7
import Derived.Shelf.Strings.BuilderK
namespace Go.Proofs.YtfeciafdioepiaaGreatDoor.PC
open Go.Proofs.YtfeciafdioepiaaGreatDoor.PA
open Go.Proofs.YtfeciafdioepiaaGreatDoor
open Go.RowKit Go.Proofs.YtfeciafdioepiaaGreatDoorW.PrintWords Go.Proofs.YtfeciafdioepiaaGreatDoorW.PrintLast Go.Proofs.YtfeciafdioepiaaGreatDoorW.PrintMore
attribute [local go_sem] max2_int min2_int max_two min_two max_three min_three max_four min_four   -- for this text's walks alone
set_option linter.unusedVariables false
set_option linter.unusedSimpArgs false

/-! ### article_CheckBody: function 17 -/
def article_CheckBody.l0 : Nat → ByteArray → Int → Option (Int × Int)
  | 0, _, _ => none
  | k + 1, x0, x4 => if x4 < (x0.size : Int) then (if 0 ≤ x4 then (if x4 ≤ (x0.size : Int) then ((GV.Cut.f (x0.extract (x4 : Int).toNat x0.size) (⟨#[10]⟩ : ByteArray)).bind fun bt101 => (if bt101.2.2 = true then (if (bt101.1.size : Int) > 998 then (some (wrap64 (x4 + 998), 5)) else ((GV.badByte.f bt101.1).bind fun t104 => (if t104 ≥ 0 then (some (wrap64 (x4 + t104), 6)) else (article_CheckBody.l0 k x0 (wrap64 (x4 + (wrap64 ((bt101.1.size : Int) + 1)))))))) else (some ((x0.size : Int), 4)))) else (none)) else (none)) else (some (0, 0))
def article_CheckBody.f (k : Nat) (a0 : ByteArray) : Option (Int × Int) := article_CheckBody.l0 k a0 0
set_option maxHeartbeats 8000000 in
set_option maxRecDepth 100000 in
theorem article_CheckBody.calls (k : Nat) (a0 : ByteArray) (r1 : Int) (r2 : Int) (w : World) (h : article_CheckBody.f k a0 = some (r1, r2)) :
    Calls Tryz.prog 17 #[.string a0] w fun e w' => e = .returned (.tuple #[.int .i64 r1, .int .i64 r2]) ∧ Below w.heap.size w w' := by
  have HB := Aside0.mk (Below.refl w.heap.size w)
  have H : (article_CheckBody.l0 k a0 0) = some (r1, r2) := h
  clear h
  have H' := Aside0.mk H
  clear H
  go_enter Tryz.func17, Tryz.ntmps17
  go_wp2
  go_loopg [4] k (fun kq v4 w' => ∃ (x4_1 : Int), v4 = .int .i64 x4_1 ∧ Aside0 (article_CheckBody.l0 kq a0 x4_1 = some (r1, r2)) ∧ Aside0 (kq ≤ k) ∧ Aside0 (Below w.heap.size w w'))
  case atStart => exact ⟨(0), (by first | rfl | (simp; done) | (simp [*]; done)), H', ⟨Nat.le_refl _⟩, ⟨by repeat (first | (with_reducible first | exact HB.out | apply below_alloc | apply pw_below_drewN | apply below_drew1) | exact HB.out)⟩⟩
  case round =>
    clear H'
    try clear c1
    obtain ⟨x4_1, rfl, HA, HK1, HB⟩ := hrel
    cases gk with
    | zero => exact absurd HA.out (by simp [article_CheckBody.l0])
    | succ k1 =>
      have H := HA.out
      clear HA
      simp only [article_CheckBody.l0] at H
      by_cases c2 : x4_1 < (a0.size : Int)
      · rw [if_pos c2] at H
        have c2b0 : decide (x4_1 < (a0.size : Int)) = true := decide_eq_true c2
        clear c2
        by_cases c3 : 0 ≤ x4_1
        · rw [if_pos c3] at H
          have c3b0 := eq_true c3
          have c3b1 : decide (0 ≤ x4_1) = true := decide_eq_true c3
          clear c3
          by_cases c4 : x4_1 ≤ (a0.size : Int)
          · rw [if_pos c4] at H
            have c4b0 := eq_true c4
            have c4b1 : decide (x4_1 ≤ (a0.size : Int)) = true := decide_eq_true c4
            clear c4
            replace H := Option.bind_eq_some_iff.mp H
            obtain ⟨⟨t101, t102, t103⟩, A50, H⟩ := H
            replace H : (if t103 = true then (if (t101.size : Int) > 998 then (some (wrap64 (x4_1 + 998), 5)) else ((GV.badByte.f t101).bind fun t104 => (if t104 ≥ 0 then (some (wrap64 (x4_1 + t104), 6)) else (article_CheckBody.l0 k1 a0 (wrap64 (x4_1 + (wrap64 ((t101.size : Int) + 1)))))))) else (some ((a0.size : Int), 4))) = some (r1, r2) := H
            have A5 := Aside0.mk A50
            clear A50
            by_cases c6 : t103 = true
            · subst c6
              have H1 : (if (t101.size : Int) > 998 then (some (wrap64 (x4_1 + 998), 5)) else ((GV.badByte.f t101).bind fun t104 => (if t104 ≥ 0 then (some (wrap64 (x4_1 + t104), 6)) else (article_CheckBody.l0 k1 a0 (wrap64 (x4_1 + (wrap64 ((t101.size : Int) + 1)))))))) = some (r1, r2) := by rw [if_pos rfl] at H; exact H
              clear H
              have H := H1
              clear H1
              by_cases c7 : (t101.size : Int) > 998
              · rw [if_pos c7] at H
                have c7b0 : decide (998 < (t101.size : Int)) = true := decide_eq_true c7
                have c7b1 : decide (998 < t101.size) = true := decide_eq_true (by omega)
                clear c7
                simp only [Option.some.injEq, Prod.mk.injEq] at H
                obtain ⟨rfl, rfl⟩ := H
                go_wp2_with (first | ((with_reducible refine gate_callee (f := 41) rfl ?_); refine goesL_ (some 17) rfl rfl Tryz.func41 (by kernel_rfl) rfl #[.string (a0.extract (x4_1 : Int).toNat a0.size), .string (⟨#[10]⟩ : ByteArray)] rfl (by (try simp only [List.map_toArray, List.map_cons, List.map_nil]); first | done | rfl | (simp only [List.length_drop, List.length_take]; rfl)) ?_; (with_reducible refine (GV.Cut.calls (a0.extract (x4_1 : Int).toNat a0.size) (⟨#[10]⟩ : ByteArray) t101 t102 true _ A5.out).mono ?_); rintro e w' ⟨rfl, ⟨nd, rfl⟩⟩; refine ⟨_, rfl, ?_⟩))
                go_ret2
                exact ⟨by first | rfl | (simp [errW_none, errW_some] <;> rfl) | (simp [*, errW_none, errW_some] <;> rfl), by repeat (first | (with_reducible first | exact HB.out | apply below_alloc | apply pw_below_drewN | apply below_drew1) | exact HB.out)⟩
              · rw [if_neg c7] at H
                have c7b0 : decide (998 < (t101.size : Int)) = false := decide_eq_false c7
                have c7b1 : decide (998 < t101.size) = false := decide_eq_false (by omega)
                clear c7
                replace H := Option.bind_eq_some_iff.mp H
                obtain ⟨t104, A80, H⟩ := H
                replace H : (if t104 ≥ 0 then (some (wrap64 (x4_1 + t104), 6)) else (article_CheckBody.l0 k1 a0 (wrap64 (x4_1 + (wrap64 ((t101.size : Int) + 1)))))) = some (r1, r2) := H
                have A8 := Aside0.mk A80
                clear A80
                by_cases c9 : t104 ≥ 0
                · rw [if_pos c9] at H
                  have c9b0 : decide (0 ≤ t104) = true := decide_eq_true c9
                  clear c9
                  simp only [Option.some.injEq, Prod.mk.injEq] at H
                  obtain ⟨rfl, rfl⟩ := H
                  go_wp2_with (first | ((with_reducible refine gate_callee (f := 41) rfl ?_); refine goesL_ (some 17) rfl rfl Tryz.func41 (by kernel_rfl) rfl #[.string (a0.extract (x4_1 : Int).toNat a0.size), .string (⟨#[10]⟩ : ByteArray)] rfl (by (try simp only [List.map_toArray, List.map_cons, List.map_nil]); first | done | rfl | (simp only [List.length_drop, List.length_take]; rfl)) ?_; (with_reducible refine (GV.Cut.calls (a0.extract (x4_1 : Int).toNat a0.size) (⟨#[10]⟩ : ByteArray) t101 t102 true _ A5.out).mono ?_); rintro e w' ⟨rfl, ⟨nd, rfl⟩⟩; refine ⟨_, rfl, ?_⟩) | ((with_reducible refine gate_callee (f := 42) rfl ?_); refine goesL_ (some 33) rfl rfl Tryz.func42 (by kernel_rfl) rfl #[.string t101] rfl (by (try simp only [List.map_toArray, List.map_cons, List.map_nil]); first | done | rfl | (simp only [List.length_drop, List.length_take]; rfl)) ?_; (with_reducible refine (GV.badByte.calls t101 t104 _ A8.out).mono ?_); rintro e w10 ⟨rfl, hb⟩; refine ⟨_, rfl, ?_⟩; have n0_ := Aside0.mk (below_step (by repeat (first | (with_reducible first | exact HB.out | apply below_alloc | apply pw_below_drewN | apply below_drew1) | exact HB.out)) hb); clear HB; have HB := n0_; clear n0_; (try clear hb); (try clear hb2); (try clear hk); (try clear hi)))
                  go_ret2
                  exact ⟨by first | rfl | (simp [errW_none, errW_some] <;> rfl) | (simp [*, errW_none, errW_some] <;> rfl), by repeat (first | (with_reducible first | exact HB.out | apply below_alloc | apply pw_below_drewN | apply below_drew1) | exact HB.out)⟩
                · rw [if_neg c9] at H
                  have c9b0 : decide (0 ≤ t104) = false := decide_eq_false c9
                  clear c9
                  have H' := Aside0.mk H
                  clear H
                  go_wp2_with (first | ((with_reducible refine gate_callee (f := 41) rfl ?_); refine goesL_ (some 17) rfl rfl Tryz.func41 (by kernel_rfl) rfl #[.string (a0.extract (x4_1 : Int).toNat a0.size), .string (⟨#[10]⟩ : ByteArray)] rfl (by (try simp only [List.map_toArray, List.map_cons, List.map_nil]); first | done | rfl | (simp only [List.length_drop, List.length_take]; rfl)) ?_; (with_reducible refine (GV.Cut.calls (a0.extract (x4_1 : Int).toNat a0.size) (⟨#[10]⟩ : ByteArray) t101 t102 true _ A5.out).mono ?_); rintro e w' ⟨rfl, ⟨nd, rfl⟩⟩; refine ⟨_, rfl, ?_⟩) | ((with_reducible refine gate_callee (f := 42) rfl ?_); refine goesL_ (some 33) rfl rfl Tryz.func42 (by kernel_rfl) rfl #[.string t101] rfl (by (try simp only [List.map_toArray, List.map_cons, List.map_nil]); first | done | rfl | (simp only [List.length_drop, List.length_take]; rfl)) ?_; (with_reducible refine (GV.badByte.calls t101 t104 _ A8.out).mono ?_); rintro e w11 ⟨rfl, hb⟩; refine ⟨_, rfl, ?_⟩; have n0_ := Aside0.mk (below_step (by repeat (first | (with_reducible first | exact HB.out | apply below_alloc | apply pw_below_drewN | apply below_drew1) | exact HB.out)) hb); clear HB; have HB := n0_; clear n0_; (try clear hb); (try clear hb2); (try clear hk); (try clear hi)))
                  go_roundg k1
                  case measure => have := HK1.out; omega
                  case rel => exact ⟨(wrap64 (x4_1 + (wrap64 ((t101.size : Int) + 1)))), (by first | rfl | (simp; done) | (simp [*]; done)), H', ⟨by have := HK1.out; omega⟩, ⟨by repeat (first | (with_reducible first | exact HB.out | apply below_alloc | apply pw_below_drewN | apply below_drew1) | exact HB.out)⟩⟩
            · replace c6 := Bool.eq_false_iff.mpr c6
              subst c6
              have H1 : (some ((a0.size : Int), 4)) = some (r1, r2) := by rw [if_neg (show ¬ (false = true) by decide)] at H; exact H
              clear H
              have H := H1
              clear H1
              simp only [Option.some.injEq, Prod.mk.injEq] at H
              obtain ⟨rfl, rfl⟩ := H
              go_wp2_with (first | ((with_reducible refine gate_callee (f := 41) rfl ?_); refine goesL_ (some 17) rfl rfl Tryz.func41 (by kernel_rfl) rfl #[.string (a0.extract (x4_1 : Int).toNat a0.size), .string (⟨#[10]⟩ : ByteArray)] rfl (by (try simp only [List.map_toArray, List.map_cons, List.map_nil]); first | done | rfl | (simp only [List.length_drop, List.length_take]; rfl)) ?_; (with_reducible refine (GV.Cut.calls (a0.extract (x4_1 : Int).toNat a0.size) (⟨#[10]⟩ : ByteArray) t101 t102 false _ A5.out).mono ?_); rintro e w' ⟨rfl, ⟨nd, rfl⟩⟩; refine ⟨_, rfl, ?_⟩))
              go_ret2
              exact ⟨by first | rfl | (simp [errW_none, errW_some] <;> rfl) | (simp [*, errW_none, errW_some] <;> rfl), by repeat (first | (with_reducible first | exact HB.out | apply below_alloc | apply pw_below_drewN | apply below_drew1) | exact HB.out)⟩
          · rw [if_neg c4] at H
            exact absurd H (by simp)
        · rw [if_neg c3] at H
          exact absurd H (by simp)
      · rw [if_neg c2] at H
        have c2b0 : decide (x4_1 < (a0.size : Int)) = false := decide_eq_false c2
        clear c2
        simp only [Option.some.injEq, Prod.mk.injEq] at H
        obtain ⟨rfl, rfl⟩ := H
        go_wp2
        go_ret2
        exact ⟨by first | rfl | (simp [errW_none, errW_some] <;> rfl) | (simp [*, errW_none, errW_some] <;> rfl), by repeat (first | (with_reducible first | exact HB.out | apply below_alloc | apply pw_below_drewN | apply below_drew1) | exact HB.out)⟩

/-! ### article_Print: function 16 -/
def article_Print.f (k : Nat) (l0_0 : List (S76)) (a0_1 : ByteArray) : Option (ByteArray × Int) := (GV.Print.f k l0_0).bind fun bt106 => (if bt106.2 = 0 then ((article_CheckBody.f k a0_1).bind fun bt108 => (if bt108.2 = 0 then (if (wrap64 ((wrap64 ((bt106.1.size : Int) + 1)) + (a0_1.size : Int))) > 65536 then (some ((⟨#[]⟩ : ByteArray), 5)) else (if bt106.1.size + 1 ≤ 9223372036854775807 then (if (bt106.1 ++ (⟨#[10]⟩ : ByteArray)).size + a0_1.size ≤ 9223372036854775807 then (some ((bt106.1 ++ (⟨#[10]⟩ : ByteArray)) ++ a0_1, 0)) else (none)) else (none))) else (some ((⟨#[]⟩ : ByteArray), bt108.2)))) else (some ((⟨#[]⟩ : ByteArray), bt106.2)))
set_option maxHeartbeats 8000000 in
set_option maxRecDepth 100000 in
theorem article_Print.calls (k : Nat) (A0_0 : Option Addr) (c0_0 : Nat) (l0_0 : List (S76)) (a0_1 : ByteArray) (r1 : ByteArray) (r2 : Int) (w : World) (hr0_0 : Kd.C k76 w A0_0 l0_0.length l0_0) (hc0_0 : l0_0.length ≤ c0_0) (h : article_Print.f k l0_0 a0_1 = some (r1, r2)) :
    Calls Tryz.prog 16 #[.agg #[.slice A0_0 l0_0.length c0_0, .string a0_1]] w fun e w' => e = .returned (.tuple #[.string r1, .int .i64 r2]) ∧ Below w.heap.size w w' := by
  have hu25 := Tryz.underlying25
  have HR0_0 := Aside0.mk hr0_0
  have HC0_0 := Aside0.mk hc0_0
  clear hr0_0 hc0_0
  have HB := Aside0.mk (Below.refl w.heap.size w)
  have H : ((GV.Print.f k l0_0).bind fun bt106 => (if bt106.2 = 0 then ((article_CheckBody.f k a0_1).bind fun bt108 => (if bt108.2 = 0 then (if (wrap64 ((wrap64 ((bt106.1.size : Int) + 1)) + (a0_1.size : Int))) > 65536 then (some ((⟨#[]⟩ : ByteArray), 5)) else (if bt106.1.size + 1 ≤ 9223372036854775807 then (if (bt106.1 ++ (⟨#[10]⟩ : ByteArray)).size + a0_1.size ≤ 9223372036854775807 then (some ((bt106.1 ++ (⟨#[10]⟩ : ByteArray)) ++ a0_1, 0)) else (none)) else (none))) else (some ((⟨#[]⟩ : ByteArray), bt108.2)))) else (some ((⟨#[]⟩ : ByteArray), bt106.2)))) = some (r1, r2) := h
  clear h
  replace H := Option.bind_eq_some_iff.mp H
  obtain ⟨⟨t106, t107⟩, A20, H⟩ := H
  replace H : (if t107 = 0 then ((article_CheckBody.f k a0_1).bind fun bt108 => (if bt108.2 = 0 then (if (wrap64 ((wrap64 ((t106.size : Int) + 1)) + (a0_1.size : Int))) > 65536 then (some ((⟨#[]⟩ : ByteArray), 5)) else (if t106.size + 1 ≤ 9223372036854775807 then (if (t106 ++ (⟨#[10]⟩ : ByteArray)).size + a0_1.size ≤ 9223372036854775807 then (some ((t106 ++ (⟨#[10]⟩ : ByteArray)) ++ a0_1, 0)) else (none)) else (none))) else (some ((⟨#[]⟩ : ByteArray), bt108.2)))) else (some ((⟨#[]⟩ : ByteArray), t107))) = some (r1, r2) := H
  have A2 := Aside0.mk A20
  clear A20
  by_cases c3 : t107 = 0
  · rw [if_pos c3] at H
    have c3b0 : (t107 == 0) = true := beq_iff_eq.mpr c3
    have c3b1 : (t107 != 0) = false := bne_eq_false_iff_eq.mpr c3
    clear c3
    replace H := Option.bind_eq_some_iff.mp H
    obtain ⟨⟨t108, t109⟩, A40, H⟩ := H
    replace H : (if t109 = 0 then (if (wrap64 ((wrap64 ((t106.size : Int) + 1)) + (a0_1.size : Int))) > 65536 then (some ((⟨#[]⟩ : ByteArray), 5)) else (if t106.size + 1 ≤ 9223372036854775807 then (if (t106 ++ (⟨#[10]⟩ : ByteArray)).size + a0_1.size ≤ 9223372036854775807 then (some ((t106 ++ (⟨#[10]⟩ : ByteArray)) ++ a0_1, 0)) else (none)) else (none))) else (some ((⟨#[]⟩ : ByteArray), t109))) = some (r1, r2) := H
    have A4 := Aside0.mk A40
    clear A40
    by_cases c5 : t109 = 0
    · rw [if_pos c5] at H
      have c5b0 : (t109 == 0) = true := beq_iff_eq.mpr c5
      have c5b1 : (t109 != 0) = false := bne_eq_false_iff_eq.mpr c5
      clear c5
      by_cases c6 : (wrap64 ((wrap64 ((t106.size : Int) + 1)) + (a0_1.size : Int))) > 65536
      · rw [if_pos c6] at H
        have c6b0 : decide (65536 < (wrap64 ((wrap64 ((t106.size : Int) + 1)) + (a0_1.size : Int)))) = true := decide_eq_true c6
        have c6b1 := c6b0
        rw [show wrap64 ((wrap64 ((t106.size : Int) + 1)) + (a0_1.size : Int)) = wrap64 ((t106.size : Int) + 1 + (a0_1.size : Int)) from by unfold wrap64; omega] at c6b1
        clear c6
        simp only [Option.some.injEq, Prod.mk.injEq] at H
        obtain ⟨rfl, rfl⟩ := H
        go_enter Tryz.func16, Tryz.ntmps16
        go_wp2_with (first | ((with_reducible refine gate_dst (N := 1) rfl ?_); refine box_event ?hg (N := 1) ?hd (cs := #[.slice A0_0 l0_0.length c0_0, .string a0_1]) (t := 25) ?hr ?_; (case hd => rfl); (case hg => rfl); (case hr => first | (go_simp; done) | (go_simp; rfl)); intro gb105 hg w7 hbox hb; have n0_ := Aside0.mk (below_step (by repeat (first | (with_reducible first | exact HB.out | apply below_alloc | apply pw_below_drewN | apply below_drew1) | exact HB.out)) hb); have n1_ := Aside0.mk (hbox); have n2_ := Aside0.mk ((by rw [hg]; exact (below_size (by repeat (first | (with_reducible first | exact HB.out | apply below_alloc | apply pw_below_drewN | apply below_drew1) | exact HB.out))) : w.heap.size ≤ gb105)); have n3_ := Aside0.mk ((by rw [hg]; exact (below_size (by repeat (first | (with_reducible first | exact HB.out | apply below_alloc | apply pw_below_drewN | apply below_drew1) | exact HB.out))) : w.heap.size ≤ gb105)); clear HB; have HB := n0_; have BK105 := n1_; have GW105 := n2_; have GE105 := n3_; clear n0_ n1_ n2_ n3_; clear hb hbox hg; have hcz8_0 : w7.cell? ⟨gb105, 0, none⟩ = some (.slice A0_0 l0_0.length c0_0) := (blk_cell BK105.out 0).trans rfl; have hcz8_1 : w7.cell? ⟨gb105, 1, none⟩ = some (.string a0_1) := (blk_cell BK105.out 1).trans rfl; have hfz8_0 := blk_frozen BK105.out 0; have hfz8_1 := blk_frozen BK105.out 1) | ((with_reducible refine gate_callee (f := 40) rfl ?_); refine goesL_ (some 11) rfl rfl Tryz.func40 (by kernel_rfl) rfl #[.slice A0_0 l0_0.length c0_0] rfl (by (try simp only [List.map_toArray, List.map_cons, List.map_nil]); first | done | rfl | (simp only [List.length_drop, List.length_take]; rfl)) ?_; (with_reducible refine (GV.Print.calls k _ _ l0_0 t106 t107 _ ?side1 ?side2 A2.out).mono ?_); (case side1 => repeat (first | exact (Kd.C_below HR0_0.out HB.out) | (with_reducible refine Kd.C_alloc ?_ _) | (with_reducible refine Kd.C_drewN ?_ _) | (with_reducible refine Kd.C_drew ?_))); (case side2 => exact HC0_0.out); rintro e w9 ⟨rfl, hb⟩; refine ⟨_, rfl, ?_⟩; have n0_ := Aside0.mk (blk_below (g := gb105) (o := .cells #[.slice A0_0 l0_0.length c0_0, .string a0_1] 25 (0, 0)) (by (with_reducible repeat (first | refine blk_drewN ?_ _ | refine blk_drew ?_ | refine blk_alloc ?_ _)); exact BK105.out) hb); have n1_ := Aside0.mk (below_step (by repeat (first | (with_reducible first | exact HB.out | apply below_alloc | apply pw_below_drewN | apply below_drew1 | refine below_set ?_ GE105.out) | exact HB.out)) hb); clear BK105; clear HB; have BK105 := n0_; have HB := n1_; clear n0_ n1_; (try clear hb); (try clear hb2); (try clear hk); (try clear hi); have hcz10_0 : w9.cell? ⟨gb105, 0, none⟩ = some (.slice A0_0 l0_0.length c0_0) := (blk_cell BK105.out 0).trans rfl; have hcz10_1 : w9.cell? ⟨gb105, 1, none⟩ = some (.string a0_1) := (blk_cell BK105.out 1).trans rfl; have hfz10_0 := blk_frozen BK105.out 0; have hfz10_1 := blk_frozen BK105.out 1) | ((with_reducible refine gate_callee (f := 17) rfl ?_); refine goesL_ (some 20) rfl rfl Tryz.func17 (by kernel_rfl) rfl #[.string a0_1] rfl (by (try simp only [List.map_toArray, List.map_cons, List.map_nil]); first | done | rfl | (simp only [List.length_drop, List.length_take]; rfl)) ?_; (with_reducible refine (article_CheckBody.calls k a0_1 t108 t109 _ A4.out).mono ?_); rintro e w11 ⟨rfl, hb⟩; refine ⟨_, rfl, ?_⟩; have n0_ := Aside0.mk (blk_below (g := gb105) (o := .cells #[.slice A0_0 l0_0.length c0_0, .string a0_1] 25 (0, 0)) (by (with_reducible repeat (first | refine blk_drewN ?_ _ | refine blk_drew ?_ | refine blk_alloc ?_ _)); exact BK105.out) hb); have n1_ := Aside0.mk (below_step (by repeat (first | (with_reducible first | exact HB.out | apply below_alloc | apply pw_below_drewN | apply below_drew1 | refine below_set ?_ GE105.out) | exact HB.out)) hb); clear BK105; clear HB; have BK105 := n0_; have HB := n1_; clear n0_ n1_; (try clear hb); (try clear hb2); (try clear hk); (try clear hi); have hcz12_0 : w11.cell? ⟨gb105, 0, none⟩ = some (.slice A0_0 l0_0.length c0_0) := (blk_cell BK105.out 0).trans rfl; have hcz12_1 : w11.cell? ⟨gb105, 1, none⟩ = some (.string a0_1) := (blk_cell BK105.out 1).trans rfl; have hfz12_0 := blk_frozen BK105.out 0; have hfz12_1 := blk_frozen BK105.out 1))
        go_ret2
        exact ⟨by first | rfl | (simp [errW_none, errW_some] <;> rfl) | (simp [*, errW_none, errW_some] <;> rfl), by repeat (first | (with_reducible first | exact HB.out | apply below_alloc | apply pw_below_drewN | apply below_drew1 | refine below_set ?_ GE105.out) | exact HB.out)⟩
      · rw [if_neg c6] at H
        have c6b0 : decide (65536 < (wrap64 ((wrap64 ((t106.size : Int) + 1)) + (a0_1.size : Int)))) = false := decide_eq_false c6
        have c6b1 := c6b0
        rw [show wrap64 ((wrap64 ((t106.size : Int) + 1)) + (a0_1.size : Int)) = wrap64 ((t106.size : Int) + 1 + (a0_1.size : Int)) from by unfold wrap64; omega] at c6b1
        clear c6
        by_cases c13 : t106.size + 1 ≤ 9223372036854775807
        · rw [if_pos c13] at H
          have c13b0 := eq_true c13
          have c13b1 : decide (t106.size + 1 ≤ 9223372036854775807) = true := decide_eq_true c13
          try have c13b2 : (9223372036854775807 < t106.size + 1) = False := eq_false (Nat.not_lt.2 c13)
          by_cases c14 : (t106 ++ (⟨#[10]⟩ : ByteArray)).size + a0_1.size ≤ 9223372036854775807
          · rw [if_pos c14] at H
            have c14b0 := eq_true c14
            have c14b1 : decide ((t106 ++ (⟨#[10]⟩ : ByteArray)).size + a0_1.size ≤ 9223372036854775807) = true := decide_eq_true c14
            try have c14b2 : (9223372036854775807 < (t106 ++ (⟨#[10]⟩ : ByteArray)).size + a0_1.size) = False := eq_false (Nat.not_lt.2 c14)
            simp only [Option.some.injEq, Prod.mk.injEq] at H
            obtain ⟨rfl, rfl⟩ := H
            go_enter Tryz.func16, Tryz.ntmps16
            go_wp2_with (first | ((with_reducible refine gate_dst (N := 1) rfl ?_); refine box_event ?hg (N := 1) ?hd (cs := #[.slice A0_0 l0_0.length c0_0, .string a0_1]) (t := 25) ?hr ?_; (case hd => rfl); (case hg => rfl); (case hr => first | (go_simp; done) | (go_simp; rfl)); intro gb105 hg w15 hbox hb; have n0_ := Aside0.mk (below_step (by repeat (first | (with_reducible first | exact HB.out | apply below_alloc | apply pw_below_drewN | apply below_drew1) | exact HB.out)) hb); have n1_ := Aside0.mk (hbox); have n2_ := Aside0.mk ((by rw [hg]; exact (below_size (by repeat (first | (with_reducible first | exact HB.out | apply below_alloc | apply pw_below_drewN | apply below_drew1) | exact HB.out))) : w.heap.size ≤ gb105)); have n3_ := Aside0.mk ((by rw [hg]; exact (below_size (by repeat (first | (with_reducible first | exact HB.out | apply below_alloc | apply pw_below_drewN | apply below_drew1) | exact HB.out))) : w.heap.size ≤ gb105)); clear HB; have HB := n0_; have BK105 := n1_; have GW105 := n2_; have GE105 := n3_; clear n0_ n1_ n2_ n3_; clear hb hbox hg; have hcz16_0 : w15.cell? ⟨gb105, 0, none⟩ = some (.slice A0_0 l0_0.length c0_0) := (blk_cell BK105.out 0).trans rfl; have hcz16_1 : w15.cell? ⟨gb105, 1, none⟩ = some (.string a0_1) := (blk_cell BK105.out 1).trans rfl; have hfz16_0 := blk_frozen BK105.out 0; have hfz16_1 := blk_frozen BK105.out 1) | ((with_reducible refine gate_callee (f := 40) rfl ?_); refine goesL_ (some 11) rfl rfl Tryz.func40 (by kernel_rfl) rfl #[.slice A0_0 l0_0.length c0_0] rfl (by (try simp only [List.map_toArray, List.map_cons, List.map_nil]); first | done | rfl | (simp only [List.length_drop, List.length_take]; rfl)) ?_; (with_reducible refine (GV.Print.calls k _ _ l0_0 t106 t107 _ ?side1 ?side2 A2.out).mono ?_); (case side1 => repeat (first | exact (Kd.C_below HR0_0.out HB.out) | (with_reducible refine Kd.C_alloc ?_ _) | (with_reducible refine Kd.C_drewN ?_ _) | (with_reducible refine Kd.C_drew ?_))); (case side2 => exact HC0_0.out); rintro e w17 ⟨rfl, hb⟩; refine ⟨_, rfl, ?_⟩; have n0_ := Aside0.mk (blk_below (g := gb105) (o := .cells #[.slice A0_0 l0_0.length c0_0, .string a0_1] 25 (0, 0)) (by (with_reducible repeat (first | refine blk_drewN ?_ _ | refine blk_drew ?_ | refine blk_alloc ?_ _)); exact BK105.out) hb); have n1_ := Aside0.mk (below_step (by repeat (first | (with_reducible first | exact HB.out | apply below_alloc | apply pw_below_drewN | apply below_drew1 | refine below_set ?_ GE105.out) | exact HB.out)) hb); clear BK105; clear HB; have BK105 := n0_; have HB := n1_; clear n0_ n1_; (try clear hb); (try clear hb2); (try clear hk); (try clear hi); have hcz18_0 : w17.cell? ⟨gb105, 0, none⟩ = some (.slice A0_0 l0_0.length c0_0) := (blk_cell BK105.out 0).trans rfl; have hcz18_1 : w17.cell? ⟨gb105, 1, none⟩ = some (.string a0_1) := (blk_cell BK105.out 1).trans rfl; have hfz18_0 := blk_frozen BK105.out 0; have hfz18_1 := blk_frozen BK105.out 1) | ((with_reducible refine gate_callee (f := 17) rfl ?_); refine goesL_ (some 20) rfl rfl Tryz.func17 (by kernel_rfl) rfl #[.string a0_1] rfl (by (try simp only [List.map_toArray, List.map_cons, List.map_nil]); first | done | rfl | (simp only [List.length_drop, List.length_take]; rfl)) ?_; (with_reducible refine (article_CheckBody.calls k a0_1 t108 t109 _ A4.out).mono ?_); rintro e w19 ⟨rfl, hb⟩; refine ⟨_, rfl, ?_⟩; have n0_ := Aside0.mk (blk_below (g := gb105) (o := .cells #[.slice A0_0 l0_0.length c0_0, .string a0_1] 25 (0, 0)) (by (with_reducible repeat (first | refine blk_drewN ?_ _ | refine blk_drew ?_ | refine blk_alloc ?_ _)); exact BK105.out) hb); have n1_ := Aside0.mk (below_step (by repeat (first | (with_reducible first | exact HB.out | apply below_alloc | apply pw_below_drewN | apply below_drew1 | refine below_set ?_ GE105.out) | exact HB.out)) hb); clear BK105; clear HB; have BK105 := n0_; have HB := n1_; clear n0_ n1_; (try clear hb); (try clear hb2); (try clear hk); (try clear hi); have hcz20_0 : w19.cell? ⟨gb105, 0, none⟩ = some (.slice A0_0 l0_0.length c0_0) := (blk_cell BK105.out 0).trans rfl; have hcz20_1 : w19.cell? ⟨gb105, 1, none⟩ = some (.string a0_1) := (blk_cell BK105.out 1).trans rfl; have hfz20_0 := blk_frozen BK105.out 0; have hfz20_1 := blk_frozen BK105.out 1))
            go_ret2
            exact ⟨by first | rfl | (simp [errW_none, errW_some] <;> rfl) | (simp [*, errW_none, errW_some] <;> rfl), by repeat (first | (with_reducible first | exact HB.out | apply below_alloc | apply pw_below_drewN | apply below_drew1 | refine below_set ?_ GE105.out) | exact HB.out)⟩
          · rw [if_neg c14] at H
            exact absurd H (by simp)
        · rw [if_neg c13] at H
          exact absurd H (by simp)
    · rw [if_neg c5] at H
      have c5b0 : (t109 == 0) = false := beq_eq_false_iff_ne.mpr c5
      have c5b1 : (t109 != 0) = true := bne_iff_ne.mpr c5
      simp only [Option.some.injEq, Prod.mk.injEq] at H
      obtain ⟨rfl, rfl⟩ := H
      go_enter Tryz.func16, Tryz.ntmps16
      go_wp2_with (first | ((with_reducible refine gate_dst (N := 1) rfl ?_); refine box_event ?hg (N := 1) ?hd (cs := #[.slice A0_0 l0_0.length c0_0, .string a0_1]) (t := 25) ?hr ?_; (case hd => rfl); (case hg => rfl); (case hr => first | (go_simp; done) | (go_simp; rfl)); intro gb105 hg w21 hbox hb; have n0_ := Aside0.mk (below_step (by repeat (first | (with_reducible first | exact HB.out | apply below_alloc | apply pw_below_drewN | apply below_drew1) | exact HB.out)) hb); have n1_ := Aside0.mk (hbox); have n2_ := Aside0.mk ((by rw [hg]; exact (below_size (by repeat (first | (with_reducible first | exact HB.out | apply below_alloc | apply pw_below_drewN | apply below_drew1) | exact HB.out))) : w.heap.size ≤ gb105)); have n3_ := Aside0.mk ((by rw [hg]; exact (below_size (by repeat (first | (with_reducible first | exact HB.out | apply below_alloc | apply pw_below_drewN | apply below_drew1) | exact HB.out))) : w.heap.size ≤ gb105)); clear HB; have HB := n0_; have BK105 := n1_; have GW105 := n2_; have GE105 := n3_; clear n0_ n1_ n2_ n3_; clear hb hbox hg; have hcz22_0 : w21.cell? ⟨gb105, 0, none⟩ = some (.slice A0_0 l0_0.length c0_0) := (blk_cell BK105.out 0).trans rfl; have hcz22_1 : w21.cell? ⟨gb105, 1, none⟩ = some (.string a0_1) := (blk_cell BK105.out 1).trans rfl; have hfz22_0 := blk_frozen BK105.out 0; have hfz22_1 := blk_frozen BK105.out 1) | ((with_reducible refine gate_callee (f := 40) rfl ?_); refine goesL_ (some 11) rfl rfl Tryz.func40 (by kernel_rfl) rfl #[.slice A0_0 l0_0.length c0_0] rfl (by (try simp only [List.map_toArray, List.map_cons, List.map_nil]); first | done | rfl | (simp only [List.length_drop, List.length_take]; rfl)) ?_; (with_reducible refine (GV.Print.calls k _ _ l0_0 t106 t107 _ ?side1 ?side2 A2.out).mono ?_); (case side1 => repeat (first | exact (Kd.C_below HR0_0.out HB.out) | (with_reducible refine Kd.C_alloc ?_ _) | (with_reducible refine Kd.C_drewN ?_ _) | (with_reducible refine Kd.C_drew ?_))); (case side2 => exact HC0_0.out); rintro e w23 ⟨rfl, hb⟩; refine ⟨_, rfl, ?_⟩; have n0_ := Aside0.mk (blk_below (g := gb105) (o := .cells #[.slice A0_0 l0_0.length c0_0, .string a0_1] 25 (0, 0)) (by (with_reducible repeat (first | refine blk_drewN ?_ _ | refine blk_drew ?_ | refine blk_alloc ?_ _)); exact BK105.out) hb); have n1_ := Aside0.mk (below_step (by repeat (first | (with_reducible first | exact HB.out | apply below_alloc | apply pw_below_drewN | apply below_drew1 | refine below_set ?_ GE105.out) | exact HB.out)) hb); clear BK105; clear HB; have BK105 := n0_; have HB := n1_; clear n0_ n1_; (try clear hb); (try clear hb2); (try clear hk); (try clear hi); have hcz24_0 : w23.cell? ⟨gb105, 0, none⟩ = some (.slice A0_0 l0_0.length c0_0) := (blk_cell BK105.out 0).trans rfl; have hcz24_1 : w23.cell? ⟨gb105, 1, none⟩ = some (.string a0_1) := (blk_cell BK105.out 1).trans rfl; have hfz24_0 := blk_frozen BK105.out 0; have hfz24_1 := blk_frozen BK105.out 1) | ((with_reducible refine gate_callee (f := 17) rfl ?_); refine goesL_ (some 20) rfl rfl Tryz.func17 (by kernel_rfl) rfl #[.string a0_1] rfl (by (try simp only [List.map_toArray, List.map_cons, List.map_nil]); first | done | rfl | (simp only [List.length_drop, List.length_take]; rfl)) ?_; (with_reducible refine (article_CheckBody.calls k a0_1 t108 t109 _ A4.out).mono ?_); rintro e w25 ⟨rfl, hb⟩; refine ⟨_, rfl, ?_⟩; have n0_ := Aside0.mk (blk_below (g := gb105) (o := .cells #[.slice A0_0 l0_0.length c0_0, .string a0_1] 25 (0, 0)) (by (with_reducible repeat (first | refine blk_drewN ?_ _ | refine blk_drew ?_ | refine blk_alloc ?_ _)); exact BK105.out) hb); have n1_ := Aside0.mk (below_step (by repeat (first | (with_reducible first | exact HB.out | apply below_alloc | apply pw_below_drewN | apply below_drew1 | refine below_set ?_ GE105.out) | exact HB.out)) hb); clear BK105; clear HB; have BK105 := n0_; have HB := n1_; clear n0_ n1_; (try clear hb); (try clear hb2); (try clear hk); (try clear hi)))
      go_ret2
      exact ⟨by first | rfl | (simp [errW_none, errW_some] <;> rfl) | (simp [*, errW_none, errW_some] <;> rfl), by repeat (first | (with_reducible first | exact HB.out | apply below_alloc | apply pw_below_drewN | apply below_drew1 | refine below_set ?_ GE105.out) | exact HB.out)⟩
  · rw [if_neg c3] at H
    have c3b0 : (t107 == 0) = false := beq_eq_false_iff_ne.mpr c3
    have c3b1 : (t107 != 0) = true := bne_iff_ne.mpr c3
    simp only [Option.some.injEq, Prod.mk.injEq] at H
    obtain ⟨rfl, rfl⟩ := H
    go_enter Tryz.func16, Tryz.ntmps16
    go_wp2_with (first | ((with_reducible refine gate_dst (N := 1) rfl ?_); refine box_event ?hg (N := 1) ?hd (cs := #[.slice A0_0 l0_0.length c0_0, .string a0_1]) (t := 25) ?hr ?_; (case hd => rfl); (case hg => rfl); (case hr => first | (go_simp; done) | (go_simp; rfl)); intro gb105 hg w26 hbox hb; have n0_ := Aside0.mk (below_step (by repeat (first | (with_reducible first | exact HB.out | apply below_alloc | apply pw_below_drewN | apply below_drew1) | exact HB.out)) hb); have n1_ := Aside0.mk (hbox); have n2_ := Aside0.mk ((by rw [hg]; exact (below_size (by repeat (first | (with_reducible first | exact HB.out | apply below_alloc | apply pw_below_drewN | apply below_drew1) | exact HB.out))) : w.heap.size ≤ gb105)); have n3_ := Aside0.mk ((by rw [hg]; exact (below_size (by repeat (first | (with_reducible first | exact HB.out | apply below_alloc | apply pw_below_drewN | apply below_drew1) | exact HB.out))) : w.heap.size ≤ gb105)); clear HB; have HB := n0_; have BK105 := n1_; have GW105 := n2_; have GE105 := n3_; clear n0_ n1_ n2_ n3_; clear hb hbox hg; have hcz27_0 : w26.cell? ⟨gb105, 0, none⟩ = some (.slice A0_0 l0_0.length c0_0) := (blk_cell BK105.out 0).trans rfl; have hcz27_1 : w26.cell? ⟨gb105, 1, none⟩ = some (.string a0_1) := (blk_cell BK105.out 1).trans rfl; have hfz27_0 := blk_frozen BK105.out 0; have hfz27_1 := blk_frozen BK105.out 1) | ((with_reducible refine gate_callee (f := 40) rfl ?_); refine goesL_ (some 11) rfl rfl Tryz.func40 (by kernel_rfl) rfl #[.slice A0_0 l0_0.length c0_0] rfl (by (try simp only [List.map_toArray, List.map_cons, List.map_nil]); first | done | rfl | (simp only [List.length_drop, List.length_take]; rfl)) ?_; (with_reducible refine (GV.Print.calls k _ _ l0_0 t106 t107 _ ?side1 ?side2 A2.out).mono ?_); (case side1 => repeat (first | exact (Kd.C_below HR0_0.out HB.out) | (with_reducible refine Kd.C_alloc ?_ _) | (with_reducible refine Kd.C_drewN ?_ _) | (with_reducible refine Kd.C_drew ?_))); (case side2 => exact HC0_0.out); rintro e w28 ⟨rfl, hb⟩; refine ⟨_, rfl, ?_⟩; have n0_ := Aside0.mk (blk_below (g := gb105) (o := .cells #[.slice A0_0 l0_0.length c0_0, .string a0_1] 25 (0, 0)) (by (with_reducible repeat (first | refine blk_drewN ?_ _ | refine blk_drew ?_ | refine blk_alloc ?_ _)); exact BK105.out) hb); have n1_ := Aside0.mk (below_step (by repeat (first | (with_reducible first | exact HB.out | apply below_alloc | apply pw_below_drewN | apply below_drew1 | refine below_set ?_ GE105.out) | exact HB.out)) hb); clear BK105; clear HB; have BK105 := n0_; have HB := n1_; clear n0_ n1_; (try clear hb); (try clear hb2); (try clear hk); (try clear hi)))
    go_ret2
    exact ⟨by first | rfl | (simp [errW_none, errW_some] <;> rfl) | (simp [*, errW_none, errW_some] <;> rfl), by repeat (first | (with_reducible first | exact HB.out | apply below_alloc | apply pw_below_drewN | apply below_drew1 | refine below_set ?_ GE105.out) | exact HB.out)⟩

/-! ### article_Article_Check: function 26 -/
def article_Article_Check.f (k : Nat) (l0_0 : List (S76)) (a0_1 : ByteArray) : Option (Int) := (article_Print.f k l0_0 a0_1).bind fun bt111 => (some bt111.2)
set_option maxHeartbeats 8000000 in
set_option maxRecDepth 100000 in
theorem article_Article_Check.calls (k : Nat) (A0_0 : Option Addr) (c0_0 : Nat) (l0_0 : List (S76)) (a0_1 : ByteArray) (r : Int) (w : World) (hr0_0 : Kd.C k76 w A0_0 l0_0.length l0_0) (hc0_0 : l0_0.length ≤ c0_0) (h : article_Article_Check.f k l0_0 a0_1 = some r) :
    Calls Tryz.prog 26 #[.agg #[.slice A0_0 l0_0.length c0_0, .string a0_1]] w fun e w' => e = .returned (.int .i64 r) ∧ Below w.heap.size w w' := by
  have hu25 := Tryz.underlying25
  have HR0_0 := Aside0.mk hr0_0
  have HC0_0 := Aside0.mk hc0_0
  clear hr0_0 hc0_0
  have HB := Aside0.mk (Below.refl w.heap.size w)
  have H : ((article_Print.f k l0_0 a0_1).bind fun bt111 => (some bt111.2)) = some r := h
  clear h
  replace H := Option.bind_eq_some_iff.mp H
  obtain ⟨⟨t111, t112⟩, A20, H⟩ := H
  replace H : (some t112) = some r := H
  have A2 := Aside0.mk A20
  clear A20
  obtain rfl := Option.some.inj H
  go_enter Tryz.func26, Tryz.ntmps26
  go_wp2_with (first | ((with_reducible refine gate_dst (N := 1) rfl ?_); refine box_event ?hg (N := 1) ?hd (cs := #[.slice A0_0 l0_0.length c0_0, .string a0_1]) (t := 25) ?hr ?_; (case hd => rfl); (case hg => rfl); (case hr => first | (go_simp; done) | (go_simp; rfl)); intro gb110 hg w3 hbox hb; have n0_ := Aside0.mk (below_step (by repeat (first | (with_reducible first | exact HB.out | apply below_alloc | apply pw_below_drewN | apply below_drew1) | exact HB.out)) hb); have n1_ := Aside0.mk (hbox); have n2_ := Aside0.mk ((by rw [hg]; exact (below_size (by repeat (first | (with_reducible first | exact HB.out | apply below_alloc | apply pw_below_drewN | apply below_drew1) | exact HB.out))) : w.heap.size ≤ gb110)); have n3_ := Aside0.mk ((by rw [hg]; exact (below_size (by repeat (first | (with_reducible first | exact HB.out | apply below_alloc | apply pw_below_drewN | apply below_drew1) | exact HB.out))) : w.heap.size ≤ gb110)); clear HB; have HB := n0_; have BK110 := n1_; have GW110 := n2_; have GE110 := n3_; clear n0_ n1_ n2_ n3_; clear hb hbox hg; have hcz4_0 : w3.cell? ⟨gb110, 0, none⟩ = some (.slice A0_0 l0_0.length c0_0) := (blk_cell BK110.out 0).trans rfl; have hcz4_1 : w3.cell? ⟨gb110, 1, none⟩ = some (.string a0_1) := (blk_cell BK110.out 1).trans rfl; have hfz4_0 := blk_frozen BK110.out 0; have hfz4_1 := blk_frozen BK110.out 1) | ((with_reducible refine gate_callee (f := 16) rfl ?_); refine goesL_ (some 7) rfl rfl Tryz.func16 (by kernel_rfl) rfl #[.agg #[.slice A0_0 l0_0.length c0_0, .string a0_1]] rfl (by (try simp only [List.map_toArray, List.map_cons, List.map_nil]); first | done | rfl | (simp only [List.length_drop, List.length_take]; rfl)) ?_; (with_reducible refine (article_Print.calls k _ _ l0_0 a0_1 t111 t112 _ ?side1 ?side2 A2.out).mono ?_); (case side1 => repeat (first | exact (Kd.C_below HR0_0.out HB.out) | (with_reducible refine Kd.C_alloc ?_ _) | (with_reducible refine Kd.C_drewN ?_ _) | (with_reducible refine Kd.C_drew ?_))); (case side2 => exact HC0_0.out); rintro e w5 ⟨rfl, hb⟩; refine ⟨_, rfl, ?_⟩; have n0_ := Aside0.mk (blk_below (g := gb110) (o := .cells #[.slice A0_0 l0_0.length c0_0, .string a0_1] 25 (0, 0)) (by (with_reducible repeat (first | refine blk_drewN ?_ _ | refine blk_drew ?_ | refine blk_alloc ?_ _)); exact BK110.out) hb); have n1_ := Aside0.mk (below_step (by repeat (first | (with_reducible first | exact HB.out | apply below_alloc | apply pw_below_drewN | apply below_drew1 | refine below_set ?_ GE110.out) | exact HB.out)) hb); clear BK110; clear HB; have BK110 := n0_; have HB := n1_; clear n0_ n1_; (try clear hb); (try clear hb2); (try clear hk); (try clear hi)))
  go_ret
  exact ⟨by first | rfl | (simp [errW_none, errW_some] <;> rfl) | (simp [*, errW_none, errW_some] <;> rfl), by repeat (first | (with_reducible first | exact HB.out | apply below_alloc | apply pw_below_drewN | apply below_drew1 | refine below_set ?_ GE110.out) | exact HB.out)⟩

/-! ### article_Level: function 24 -/
/-! ### article_quoted: function 46 -/
/-! ### article_ToLine: function 29 -/
end Go.Proofs.YtfeciafdioepiaaGreatDoor.PC
set_option linter.unusedVariables false
set_option linter.unusedSimpArgs false
namespace Go.Proofs.YtfeciafdioepiaaGreatDoor
open Go.RowKit Go.Shelf Go.Proofs Go.Proofs.YtfeciafdioepiaaGreatDoorW.PrintWords Go.Proofs.YtfeciafdioepiaaGreatDoorW.PrintMore Go.Proofs.YtfeciafdioepiaaGreatDoor.PA
attribute [local go_sem] Oper.semAt_some

/-- The parser of an article lies at a block. -/
def Art (g : Nat) (text head : ByteArray) (fd : Bool) (v : Value) (body : ByteArray) (w : World) : Prop :=
  w.heap[g]? = some (.cells #[.string text, .string head, .bool fd, v, .string body] 67 (0, 0))
def failV (at_ code : Int) : Value := .agg #[.int .i64 at_, .int .i64 code]

set_option maxHeartbeats 4000000 in
theorem length_any (g : Nat) (text head : ByteArray) (fd : Bool) (v : Value) (body : ByteArray) (w : World) (h : Art g text head fd v body w) :
    Calls Tryz.prog 33 #[.pointer (some ⟨g, 0, none⟩)] w fun e w' => e = .returned (if 65536 < text.size then failV 65536 5 else failV 0 0) ∧ Below w.heap.size w w' := by
  have hc0 : w.cell? ⟨g, 0, none⟩ = some (.string text) := (blk_cell h 0).trans rfl
  have hg : g < w.heap.size := (Array.getElem?_eq_some_iff.1 h).1
  have HB := Aside0.mk h
  clear h
  by_cases hz : 65536 < text.size
  · rw [if_pos hz]
    have hz1 : decide (65536 < (text.size : Int)) = true := decide_eq_true (by omega)
    go_enter Tryz.func33, Tryz.ntmps33
    go_wp2
    refine bodyPost_ret (results_cell_row rfl _ _ w.heap.size 71 #[.int .i64 65536, .int .i64 5] (0, 0) _ rfl (heap_alloc_new _ _) Tryz.underlying71 rfl (by kernel_rfl)) rfl ?_
    exact ⟨rfl, (Below.refl _ _).alloc (Nat.le_refl _) _⟩
  · rw [if_neg hz]
    have hz1 : decide (65536 < (text.size : Int)) = false := decide_eq_false (by omega)
    go_enter Tryz.func33, Tryz.ntmps33
    go_wp2
    refine bodyPost_ret (results_cell_row rfl _ _ w.heap.size 71 #[.int .i64 0, .int .i64 0] (0, 0) _ rfl (heap_alloc_new _ _) Tryz.underlying71 rfl (by kernel_rfl)) rfl ?_
    exact ⟨rfl, (Below.refl _ _).alloc (Nat.le_refl _) _⟩

set_option maxHeartbeats 4000000 in
theorem separation_any (g : Nat) (text head : ByteArray) (fd : Bool) (v : Value) (body : ByteArray) (w : World) (h : Art g text head fd v body w) :
    Calls Tryz.prog 35 #[.pointer (some ⟨g, 0, none⟩)] w fun e w' => e = .returned (if fd = true then failV 0 0 else failV text.size 4) ∧ Below w.heap.size w w' := by
  have hc0 : w.cell? ⟨g, 0, none⟩ = some (.string text) := (blk_cell h 0).trans rfl
  have hc2 : w.cell? ⟨g, 2, none⟩ = some (.bool fd) := (blk_cell h 2).trans rfl
  have hg : g < w.heap.size := (Array.getElem?_eq_some_iff.1 h).1
  have HB := Aside0.mk h
  clear h
  cases fd
  · go_enter Tryz.func35, Tryz.ntmps35
    go_wp2
    refine bodyPost_ret (results_cell_row rfl _ _ w.heap.size 71 #[.int .i64 text.size, .int .i64 4] (0, 0) _ rfl (heap_alloc_new _ _) Tryz.underlying71 rfl (by kernel_rfl)) rfl ?_
    exact ⟨rfl, (Below.refl _ _).alloc (Nat.le_refl _) _⟩
  · go_enter Tryz.func35, Tryz.ntmps35
    go_wp2
    refine bodyPost_ret (results_cell_row rfl _ _ w.heap.size 71 #[.int .i64 0, .int .i64 0] (0, 0) _ rfl (heap_alloc_new _ _) Tryz.underlying71 rfl (by kernel_rfl)) rfl ?_
    exact ⟨rfl, (Below.refl _ _).alloc (Nat.le_refl _) _⟩

end Go.Proofs.YtfeciafdioepiaaGreatDoor
set_option linter.unusedVariables false
set_option linter.unusedSimpArgs false
namespace Go.Proofs.YtfeciafdioepiaaGreatDoor
open Go.RowKit Go.Shelf Go.Proofs Go.Proofs.YtfeciafdioepiaaGreatDoorW.PrintWords Go.Proofs.YtfeciafdioepiaaGreatDoorW.PrintMore Go.Proofs.YtfeciafdioepiaaGreatDoor.PA
attribute [local go_sem] Oper.semAt_some

/-- The header of a text, and whether it ends with an empty line. -/
def headA (text : ByteArray) : ByteArray × Bool :=
  if Lib.hasPrefix text.data.toList [10] = true then (⟨#[]⟩, true)
  else if 0 ≤ Lib.index text.data.toList [10, 10] then (text.extract 0 (Lib.index text.data.toList [10, 10] + 1).toNat, true)
  else (text, false)
theorem index2_lt (l : List UInt8) (h : 0 ≤ Lib.index l [10, 10]) : Lib.index l [10, 10] + 2 ≤ l.length := by
  rcases Lib.index_spec l [10, 10] with ⟨h1, _⟩ | ⟨i, h1, h2, h3, _⟩
  · omega
  · have h4 : [10, 10] <+: l.drop i := List.isPrefixOf_iff_prefix.1 h3
    have := h4.length_le
    simp at this
    omega

/-- What the header's step leaves. -/
def HeadPost (B g : Nat) (text hd : ByteArray) (fd : Bool) (body : ByteArray) (w : World) (e : Ending) (w' : World) : Prop :=
  ∃ v', e = .returned (failV (parseP hd.data.toList).2.1 (parseP hd.data.toList).2.2) ∧ Art g text hd fd v' body w' ∧ Kd.R k76 76 w' B (fun _ => True) v' ((parseP hd.data.toList).1.map toS) ∧ Below B w w' ∧ KeepBut w w' g none

theorem keep_below {w W w' : World} {g : Nat} (h : KeepBut w W g none) (hb : Below W.heap.size W w') : KeepBut w w' g none :=
  ⟨Nat.le_trans h.1 hb.size, fun i hi h1 h2 => (hb.block i (Nat.lt_of_lt_of_le hi h.1)).trans (h.2 i hi h1 h2)⟩
theorem keep_alloc {w W : World} {g : Nat} (h : KeepBut w W g none) (o : Obj) : KeepBut w (W.alloc o) g none :=
  ⟨Nat.le_trans h.1 (by simp), fun i hi h1 h2 => (Below.heap_alloc W o i (Nat.lt_of_lt_of_le hi h.1)).trans (h.2 i hi h1 h2)⟩
theorem keep_far {w W : World} {g F : Nat} (h : KeepBut w W g none) (hF : w.heap.size ≤ F) (j : Nat) (v : Value) : KeepBut w (W.setCell ⟨F, j, none⟩ v) g none :=
  ⟨by simpa using h.1, fun i hi h1 h2 => (Below.heap_setCell W ⟨F, j, none⟩ v i (by simp; omega)).trans (h.2 i hi h1 h2)⟩
/-- What field's Parse answers, by letters. -/
def Parsed (hd : ByteArray) (xs : List S76) (p q : Int) : Prop := (parseP hd.data.toList).1.map toS = xs ∧ (parseP hd.data.toList).2.1 = p ∧ (parseP hd.data.toList).2.2 = q
theorem parse_in (B g F : Nat) (text hd : ByteArray) (fd : Bool) (v : Value) (body : ByteArray) (w W : World) (h : Art g text hd fd v body W)
    (hF : W.heap[F]? = some (.cells #[.int .i64 0, .int .i64 0] 71 (0, 0))) (hW : Below B w W) (hK : KeepBut w W g none) (hBW : B ≤ W.heap.size) (h0 : 0 < B) (hgm : Gm w) (ht : hd.size ≤ 65536) :
    Calls Tryz.prog 59 #[.string hd] W fun e w' => ∃ v', e = .returned (.tuple #[v', .int .i64 (parseP hd.data.toList).2.1, .int .i64 (parseP hd.data.toList).2.2]) ∧
      Art g text hd fd v body w' ∧ w'.heap[F]? = some (.cells #[.int .i64 0, .int .i64 0] 71 (0, 0)) ∧ Kd.R k76 76 w' B (fun _ => True) v' ((parseP hd.data.toList).1.map toS) ∧ Below B w w' ∧ KeepBut w w' g none := by
  refine (parse_any hd W (hgm.below hW h0) (by omega)).mono ?_
  rintro e w' ⟨v', he, hr, hb⟩
  exact ⟨v', he, blk_below h hb, blk_below hF hb, Kd.R_lower hr hBW, hW.trans (hb.mono hBW), keep_below hK hb⟩

theorem parse_in2 (B g : Nat) (text hd : ByteArray) (fd : Bool) (v : Value) (body : ByteArray) (w W : World) (h : Art g text hd fd v body W)
    (hW : Below B w W) (hK : KeepBut w W g none) (hz : W.heap.size = w.heap.size) (hBW : B ≤ w.heap.size) (h0 : 0 < B) (hgm : Gm w) (ht : hd.size ≤ 65536) (xs : List S76) (p q : Int) (hpe : Parsed hd xs p q) :
    Calls Tryz.prog 59 #[.string hd] (W.alloc (.cells #[.int .i64 0, .int .i64 0] 71)) fun e w' => ∃ v', e = .returned (.tuple #[v', .int .i64 p, .int .i64 q]) ∧
      Art g text hd fd v body w' ∧ w'.heap[w.heap.size]? = some (.cells #[.int .i64 0, .int .i64 0] 71 (0, 0)) ∧ Kd.R k76 76 w' B (fun _ => True) v' xs ∧ Below B w w' ∧ KeepBut w w' g none := by
  obtain ⟨rfl, rfl, rfl⟩ := hpe
  exact parse_in B g w.heap.size text hd fd v body w _ (blk_alloc h _) (by rw [← hz]; exact blk_new W _) (hW.alloc (by omega) _) (keep_alloc hK _) (by simp; omega) h0 hgm ht

theorem head_post {B g : Nat} {text hd : ByteArray} {fd : Bool} {v body v5} {w w5 : World} {xs : List S76} {p q : Int} (hpe : Parsed hd xs p q)
    (ha : Art g text hd fd v body w5) (hf : w5.heap[w.heap.size]? = some (.cells #[.int .i64 0, .int .i64 0] 71 (0, 0)))
    (hr : Kd.R k76 76 w5 B (fun _ => True) v5 xs) (hb : Below B w w5) (hk : KeepBut w w5 g none) (hB : B ≤ g) (hg : g < w.heap.size) (hBw : B ≤ w.heap.size) :
    HeadPost B g text hd fd body w (.returned (.agg #[.int .i64 p, .int .i64 q]))
      (((w5.setCell ⟨g, 3, none⟩ v5).setCell ⟨w.heap.size, 0, none⟩ (.int .i64 p)).setCell ⟨w.heap.size, 1, none⟩ (.int .i64 q)) := by
  obtain ⟨rfl, rfl, rfl⟩ := hpe
  have h1 := blk_far hf (p := ⟨g, 3, none⟩) (by simp; omega) v5
  have h2 := blk_set h1 0 (.int .i64 (parseP hd.data.toList).2.1)
  have r1 := Kd.R_set hr ha (by decide) 3 v5
  have r2 := Kd.R_set r1 h1 (by decide) 0 (.int .i64 (parseP hd.data.toList).2.1)
  have r3 := Kd.R_set r2 h2 (by decide) 1 (.int .i64 (parseP hd.data.toList).2.2)
  refine ⟨v5, rfl, ?_, r3, ?_, keep_far (keep_far (hk.set_ 3 _) (Nat.le_refl _) 0 _) (Nat.le_refl _) 1 _⟩
  · exact blk_far (blk_far (blk_put ha 3 v5 rfl) (p := ⟨w.heap.size, 0, none⟩) (by simp; omega) _) (p := ⟨w.heap.size, 1, none⟩) (by simp; omega) _
  · exact ((hb.setCell (p := ⟨g, 3, none⟩) hB _).setCell (p := ⟨w.heap.size, 0, none⟩) hBw _).setCell (p := ⟨w.heap.size, 1, none⟩) hBw _

set_option maxHeartbeats 4000000 in
theorem header1 (B g : Nat) (text body : ByteArray) (v : Value) (w : World) (hB : B ≤ g) (h0 : 0 < B) (hgm : Gm w) (ht : text.size ≤ 65536) (h : Art g text ⟨#[]⟩ false v body w)
    (hp : Lib.hasPrefix text.data.toList [10] = true) :
    Calls Tryz.prog 34 #[.pointer (some ⟨g, 0, none⟩)] w (HeadPost B g text ⟨#[]⟩ true body w) := by
  have hc0 : w.cell? ⟨g, 0, none⟩ = some (.string text) := (blk_cell h 0).trans rfl
  have hc1 : w.cell? ⟨g, 1, none⟩ = some (.string ⟨#[]⟩) := (blk_cell h 1).trans rfl
  have hc2 : w.cell? ⟨g, 2, none⟩ = some (.bool false) := (blk_cell h 2).trans rfl
  have hf1 := blk_frozen h 1
  have hf2 := blk_frozen h 2
  have hf3 := blk_frozen h 3
  have hg : g < w.heap.size := (Array.getElem?_eq_some_iff.1 h).1
  have hW0 := ((Below.refl B w).setCell (p := ⟨g, 1, none⟩) hB (.string text)).setCell (p := ⟨g, 2, none⟩) hB (.bool true)
  have hW : Below B w ((((w.setCell ⟨g, 1, none⟩ (.string text)).setCell ⟨g, 2, none⟩ (.bool true)).alloc (.cells #[.int .i64 0, .int .i64 0] 71))) :=
    hW0.alloc (by simp; omega) _
  have hA := (blk_set (blk_set (blk_set h 1 (.string text)) 2 (.bool true)) 1 (.string ⟨#[]⟩)).trans rfl
  obtain ⟨xs, p, q, hpe⟩ : ∃ xs p q, Parsed ⟨#[]⟩ xs p q := ⟨_, _, _, rfl, rfl, rfl⟩
  have hP := parse_in2 B g text ⟨#[]⟩ true v body w _ hA (hW0.setCell (p := ⟨g, 1, none⟩) hB (.string ⟨#[]⟩)) ((((KeepBut.refl w g none).set_ 1 _).set_ 2 _).set_ 1 _) (by simp) (by omega) h0 hgm (by decide) xs p q hpe
  have HPE := Aside0.mk hpe
  clear hpe
  have HP := Aside0.mk hP
  have Hi := Lib.hid (fun W (hW : Below B w W) => index_any text ⟨#[10, 10]⟩ W (hgm.below hW h0) (by omega))
  have HW := Aside0.mk hW
  have Hp := Lib.hid hp
  clear h hp hgm hW hW0 hA hP
  go_enter Tryz.func34, Tryz.ntmps34
  go_wp2_with (first
    | (go_at_call 58; refine (Hi.out _ HW.out).mono ?_; rintro e w' ⟨rfl, rfl⟩)
    | (go_at_call 57; refine (Tryz.strings_HasPrefix text ⟨#[10]⟩ _).mono ?_; rintro e w' ⟨he, rfl⟩; rw [show Lib.hasPrefix text.data.toList (⟨#[10]⟩ : ByteArray).data.toList = true from Hp.out] at he; subst he)
    | (go_at_call 59; refine HP.out.mono ?_; rintro e w5 ⟨v5, rfl, ha5, hf5, hr5, hb5, hk5⟩; obtain ⟨A5, c5, e5⟩ := Kd.R_slice hr5; subst e5; have hcg3 : w5.cell? ⟨g, 3, none⟩ = some v := (blk_cell ha5 3).trans rfl; have hcf0 : w5.cell? ⟨w.heap.size, 0, none⟩ = some (.int .i64 0) := (blk_cell hf5 0).trans rfl; have hcf1 : w5.cell? ⟨w.heap.size, 1, none⟩ = some (.int .i64 0) := (blk_cell hf5 1).trans rfl; have hfz := blk_frozen ha5 3; have hfy := blk_frozen hf5 0; have hfx := blk_frozen hf5 1; have HA5 := Aside0.mk ha5; have HF5 := Aside0.mk hf5; have HR5 := Aside0.mk hr5; have HB5 := Aside0.mk hb5; have HK5 := Aside0.mk hk5; clear ha5 hf5 hr5 hb5 hk5))
  refine bodyPost_ret (results_cell_row rfl _ _ w.heap.size 71 #[_, _] (0, 0) _ rfl (blk_put (blk_put (blk_far HF5.out (p := ⟨g, 3, none⟩) (by simp; omega) _) 0 _ rfl) 1 _ rfl) Tryz.underlying71 rfl (by kernel_rfl)) rfl ?_
  exact head_post HPE.out HA5.out HF5.out HR5.out HB5.out HK5.out hB hg (by omega)

set_option maxHeartbeats 4000000 in
theorem header2 (B g : Nat) (text body : ByteArray) (v : Value) (w : World) (hB : B ≤ g) (h0 : 0 < B) (hgm : Gm w) (ht : text.size ≤ 65536) (h : Art g text ⟨#[]⟩ false v body w)
    (hp : Lib.hasPrefix text.data.toList [10] = false) (i : Int) (hix : Lib.index text.data.toList [10, 10] = i) (hi0 : 0 ≤ i) (hil : i + 1 ≤ text.size) :
    Calls Tryz.prog 34 #[.pointer (some ⟨g, 0, none⟩)] w (HeadPost B g text (text.extract 0 (i + 1).toNat) true body w) := by
  have hc0 : w.cell? ⟨g, 0, none⟩ = some (.string text) := (blk_cell h 0).trans rfl
  have hc1 : w.cell? ⟨g, 1, none⟩ = some (.string ⟨#[]⟩) := (blk_cell h 1).trans rfl
  have hc2 : w.cell? ⟨g, 2, none⟩ = some (.bool false) := (blk_cell h 2).trans rfl
  have hf1 := blk_frozen h 1
  have hf2 := blk_frozen h 2
  have hf3 := blk_frozen h 3
  have hg : g < w.heap.size := (Array.getElem?_eq_some_iff.1 h).1
  have hW0 := ((Below.refl B w).setCell (p := ⟨g, 1, none⟩) hB (.string text)).setCell (p := ⟨g, 2, none⟩) hB (.bool true)
  have hW : Below B w ((((w.setCell ⟨g, 1, none⟩ (.string text)).setCell ⟨g, 2, none⟩ (.bool true)).alloc (.cells #[.int .i64 0, .int .i64 0] 71))) :=
    hW0.alloc (by simp; omega) _
  have hA := (blk_set (blk_set (blk_set h 1 (.string text)) 2 (.bool true)) 1 (.string (text.extract 0 (i + 1).toNat))).trans rfl
  obtain ⟨xs, p, q, hpe⟩ : ∃ xs p q, Parsed (text.extract 0 (i + 1).toNat) xs p q := ⟨_, _, _, rfl, rfl, rfl⟩
  have hP := parse_in2 B g text (text.extract 0 (i + 1).toNat) true v body w _ hA (hW0.setCell (p := ⟨g, 1, none⟩) hB (.string (text.extract 0 (i + 1).toNat))) ((((KeepBut.refl w g none).set_ 1 _).set_ 2 _).set_ 1 _) (by simp) (by omega) h0 hgm (by simp; omega) xs p q hpe
  have HPE := Aside0.mk hpe
  clear hpe
  have HP := Aside0.mk hP
  have Hi := Lib.hid (fun W (hW : Below B w W) => index_any text ⟨#[10, 10]⟩ W (hgm.below hW h0) (by omega))
  have HW := Aside0.mk hW
  have Hp := Lib.hid hp
  have Hix := Lib.hid hix
  have hd0 : decide (0 ≤ i) = true := decide_eq_true hi0
  have hwr : wrap64 (i + 1) = i + 1 := (by unfold wrap64; omega)
  have hd1 : (0 ≤ i + 1) = True := eq_true (by omega)
  have hd2 : (i + 1 ≤ (text.size : Int)) = True := eq_true hil
  clear h hp hix hgm hW hW0 hA hP
  go_enter Tryz.func34, Tryz.ntmps34
  go_wp2_with (first
    | (go_at_call 58; refine (Hi.out _ HW.out).mono ?_; rintro e w' ⟨he, rfl⟩; rw [show Lib.index text.data.toList (⟨#[10, 10]⟩ : ByteArray).data.toList = i from Hix.out] at he; subst he)
    | (go_at_call 57; refine (Tryz.strings_HasPrefix text ⟨#[10]⟩ _).mono ?_; rintro e w' ⟨he, rfl⟩; rw [show Lib.hasPrefix text.data.toList (⟨#[10]⟩ : ByteArray).data.toList = false from Hp.out] at he; subst he)
    | (go_at_call 59; refine HP.out.mono ?_; rintro e w5 ⟨v5, rfl, ha5, hf5, hr5, hb5, hk5⟩; obtain ⟨A5, c5, e5⟩ := Kd.R_slice hr5; subst e5; have hcg3 : w5.cell? ⟨g, 3, none⟩ = some v := (blk_cell ha5 3).trans rfl; have hcf0 : w5.cell? ⟨w.heap.size, 0, none⟩ = some (.int .i64 0) := (blk_cell hf5 0).trans rfl; have hcf1 : w5.cell? ⟨w.heap.size, 1, none⟩ = some (.int .i64 0) := (blk_cell hf5 1).trans rfl; have hfz := blk_frozen ha5 3; have hfy := blk_frozen hf5 0; have hfx := blk_frozen hf5 1; have HA5 := Aside0.mk ha5; have HF5 := Aside0.mk hf5; have HR5 := Aside0.mk hr5; have HB5 := Aside0.mk hb5; have HK5 := Aside0.mk hk5; clear ha5 hf5 hr5 hb5 hk5))
  refine bodyPost_ret (results_cell_row rfl _ _ w.heap.size 71 #[_, _] (0, 0) _ rfl (blk_put (blk_put (blk_far HF5.out (p := ⟨g, 3, none⟩) (by simp; omega) _) 0 _ rfl) 1 _ rfl) Tryz.underlying71 rfl (by kernel_rfl)) rfl ?_
  exact head_post HPE.out HA5.out HF5.out HR5.out HB5.out HK5.out hB hg (by omega)

set_option maxHeartbeats 4000000 in
theorem header3 (B g : Nat) (text body : ByteArray) (v : Value) (w : World) (hB : B ≤ g) (h0 : 0 < B) (hgm : Gm w) (ht : text.size ≤ 65536) (h : Art g text ⟨#[]⟩ false v body w)
    (hp : Lib.hasPrefix text.data.toList [10] = false) (i : Int) (hix : Lib.index text.data.toList [10, 10] = i) (hi0 : i < 0) :
    Calls Tryz.prog 34 #[.pointer (some ⟨g, 0, none⟩)] w (HeadPost B g text text false body w) := by
  have hc0 : w.cell? ⟨g, 0, none⟩ = some (.string text) := (blk_cell h 0).trans rfl
  have hc1 : w.cell? ⟨g, 1, none⟩ = some (.string ⟨#[]⟩) := (blk_cell h 1).trans rfl
  have hc2 : w.cell? ⟨g, 2, none⟩ = some (.bool false) := (blk_cell h 2).trans rfl
  have hf1 := blk_frozen h 1
  have hf2 := blk_frozen h 2
  have hf3 := blk_frozen h 3
  have hg : g < w.heap.size := (Array.getElem?_eq_some_iff.1 h).1
  have hW0 := ((Below.refl B w).setCell (p := ⟨g, 1, none⟩) hB (.string text)).setCell (p := ⟨g, 2, none⟩) hB (.bool true)
  have hW : Below B w ((((w.setCell ⟨g, 1, none⟩ (.string text)).setCell ⟨g, 2, none⟩ (.bool true)).alloc (.cells #[.int .i64 0, .int .i64 0] 71))) :=
    hW0.alloc (by simp; omega) _
  have hA := (blk_set (blk_set (blk_set h 1 (.string text)) 2 (.bool true)) 2 (.bool false)).trans rfl
  obtain ⟨xs, p, q, hpe⟩ : ∃ xs p q, Parsed text xs p q := ⟨_, _, _, rfl, rfl, rfl⟩
  have hP := parse_in2 B g text text false v body w _ hA (hW0.setCell (p := ⟨g, 2, none⟩) hB (.bool false)) ((((KeepBut.refl w g none).set_ 1 _).set_ 2 _).set_ 2 _) (by simp) (by omega) h0 hgm ht xs p q hpe
  have HPE := Aside0.mk hpe
  clear hpe
  have HP := Aside0.mk hP
  have Hi := Lib.hid (fun W (hW : Below B w W) => index_any text ⟨#[10, 10]⟩ W (hgm.below hW h0) (by omega))
  have HW := Aside0.mk hW
  have Hp := Lib.hid hp
  have Hix := Lib.hid hix
  have hd0 : decide (0 ≤ i) = false := decide_eq_false (by omega)
  clear h hp hix hgm hW hW0 hA hP
  go_enter Tryz.func34, Tryz.ntmps34
  go_wp2_with (first
    | (go_at_call 58; refine (Hi.out _ HW.out).mono ?_; rintro e w' ⟨he, rfl⟩; rw [show Lib.index text.data.toList (⟨#[10, 10]⟩ : ByteArray).data.toList = i from Hix.out] at he; subst he)
    | (go_at_call 57; refine (Tryz.strings_HasPrefix text ⟨#[10]⟩ _).mono ?_; rintro e w' ⟨he, rfl⟩; rw [show Lib.hasPrefix text.data.toList (⟨#[10]⟩ : ByteArray).data.toList = false from Hp.out] at he; subst he)
    | (go_at_call 59; refine HP.out.mono ?_; rintro e w5 ⟨v5, rfl, ha5, hf5, hr5, hb5, hk5⟩; obtain ⟨A5, c5, e5⟩ := Kd.R_slice hr5; subst e5; have hcg3 : w5.cell? ⟨g, 3, none⟩ = some v := (blk_cell ha5 3).trans rfl; have hcf0 : w5.cell? ⟨w.heap.size, 0, none⟩ = some (.int .i64 0) := (blk_cell hf5 0).trans rfl; have hcf1 : w5.cell? ⟨w.heap.size, 1, none⟩ = some (.int .i64 0) := (blk_cell hf5 1).trans rfl; have hfz := blk_frozen ha5 3; have hfy := blk_frozen hf5 0; have hfx := blk_frozen hf5 1; have HA5 := Aside0.mk ha5; have HF5 := Aside0.mk hf5; have HR5 := Aside0.mk hr5; have HB5 := Aside0.mk hb5; have HK5 := Aside0.mk hk5; clear ha5 hf5 hr5 hb5 hk5))
  refine bodyPost_ret (results_cell_row rfl _ _ w.heap.size 71 #[_, _] (0, 0) _ rfl (blk_put (blk_put (blk_far HF5.out (p := ⟨g, 3, none⟩) (by simp; omega) _) 0 _ rfl) 1 _ rfl) Tryz.underlying71 rfl (by kernel_rfl)) rfl ?_
  exact head_post HPE.out HA5.out HF5.out HR5.out HB5.out HK5.out hB hg (by omega)

theorem aheader_any (B g : Nat) (text body : ByteArray) (v : Value) (w : World) (hB : B ≤ g) (h0 : 0 < B) (hgm : Gm w) (ht : text.size ≤ 65536) (h : Art g text ⟨#[]⟩ false v body w) :
    Calls Tryz.prog 34 #[.pointer (some ⟨g, 0, none⟩)] w (HeadPost B g text (headA text).1 (headA text).2 body w) := by
  unfold headA
  by_cases hp : Lib.hasPrefix text.data.toList [10] = true
  · rw [if_pos hp]; exact header1 B g text body v w hB h0 hgm ht h hp
  · rw [if_neg hp]
    by_cases hi : 0 ≤ Lib.index text.data.toList [10, 10]
    · rw [if_pos hi]
      have := index2_lt _ hi
      refine header2 B g text body v w hB h0 hgm ht h (Bool.eq_false_iff.2 hp) _ rfl hi (by simp at this; omega)
    · rw [if_neg hi]
      exact header3 B g text body v w hB h0 hgm ht h (Bool.eq_false_iff.2 hp) _ rfl (by omega)

set_option maxHeartbeats 4000000 in
theorem abody_any (B g : Nat) (text hd body : ByteArray) (v : Value) (w : World) (xs : List S76) (hB : B ≤ g) (h0 : 0 < B) (ht : text.size ≤ 65536) (hl : hd.size + 1 ≤ text.size)
    (h : Art g text hd true v body w) (hr : Kd.R k76 76 w B (fun _ => True) v xs) (k : Nat) (a c : Int) (hc : PC.article_CheckBody.f k (text.extract (hd.size + 1) text.size) = some (a, c)) :
    Calls Tryz.prog 36 #[.pointer (some ⟨g, 0, none⟩)] w fun e w' => e = .returned (failV (wrap64 (((hd.size : Int) + 1) + a)) c) ∧ Art g text hd true v (text.extract (hd.size + 1) text.size) w' ∧
      Kd.R k76 76 w' B (fun _ => True) v xs ∧ Below B w w' ∧ KeepBut w w' g none := by
  have hc0 : w.cell? ⟨g, 0, none⟩ = some (.string text) := (blk_cell h 0).trans rfl
  have hc1 : w.cell? ⟨g, 1, none⟩ = some (.string hd) := (blk_cell h 1).trans rfl
  have hc4 : w.cell? ⟨g, 4, none⟩ = some (.string body) := (blk_cell h 4).trans rfl
  have hf4 := blk_frozen h 4
  have hg : g < w.heap.size := (Array.getElem?_eq_some_iff.1 h).1
  obtain ⟨sub, hsub⟩ : ∃ sub, text.extract (hd.size + 1) text.size = sub := ⟨_, rfl⟩
  rw [hsub] at hc ⊢
  have hW0 := (Below.refl B w).setCell (p := ⟨g, 4, none⟩) hB (.string sub)
  have hA : Art g text hd true v sub (w.setCell ⟨g, 4, none⟩ (.string sub)) := (blk_set h 4 (.string sub)).trans rfl
  have hR0 := Kd.R_set hr h (by decide) 4 (.string sub)
  have hwr : wrap64 ((hd.size : Int) + 1) = (hd.size : Int) + 1 := by unfold wrap64; omega
  have hd1 : (0 ≤ (hd.size : Int) + 1) = True := eq_true (by omega)
  have hd2 : ((hd.size : Int) + 1 ≤ (text.size : Int)) = True := eq_true (by omega)
  have hti : ((hd.size : Int) + 1).toNat = hd.size + 1 := by omega
  have HP : Hid (Calls Tryz.prog 17 #[.string sub] ((w.setCell ⟨g, 4, none⟩ (.string sub)).alloc (.cells #[.int .i64 0, .int .i64 0] 71)) fun e w' =>
      e = .returned (.tuple #[.int .i64 a, .int .i64 c]) ∧ Art g text hd true v sub w' ∧ w'.heap[w.heap.size]? = some (.cells #[.int .i64 0, .int .i64 0] 71 (0, 0)) ∧
      Kd.R k76 76 w' B (fun _ => True) v xs ∧ Below B w w' ∧ KeepBut w w' g none) := by
    refine Lib.hid ((PC.article_CheckBody.calls k sub a c _ hc).mono ?_)
    rintro e w' ⟨he, hb⟩
    refine ⟨he, blk_below (blk_alloc hA _) hb, blk_below ?_ hb, ?_, ?_⟩
    · have := blk_new (w.setCell ⟨g, 4, none⟩ (.string sub)) (.cells #[.int .i64 0, .int .i64 0] 71)
      simpa using this
    · exact Kd.R_below (Kd.R_alloc hR0 _) hb
    · exact ⟨(hW0.alloc (by simp; omega) _).trans (hb.mono (by simp; omega)), keep_below (keep_alloc ((KeepBut.refl w g none).set_ 4 _) _) hb⟩
  have HB := Aside0.mk h
  clear h hr hc hW0 hA hR0
  subst hsub
  go_enter Tryz.func36, Tryz.ntmps36
  go_wp2_with (go_at_call 17; refine HP.out.mono ?_; rintro e w5 ⟨rfl, ha5, hf5, hr5, hb5, hk5⟩; have hcf0 : w5.cell? ⟨w.heap.size, 0, none⟩ = some (.int .i64 0) := (blk_cell hf5 0).trans rfl; have hcf1 : w5.cell? ⟨w.heap.size, 1, none⟩ = some (.int .i64 0) := (blk_cell hf5 1).trans rfl; have hfy := blk_frozen hf5 0; have hfx := blk_frozen hf5 1; have HA5 := Aside0.mk ha5; have HF5 := Aside0.mk hf5; have HR5 := Aside0.mk hr5; have HB5 := Aside0.mk hb5; have HK5 := Aside0.mk hk5; clear ha5 hf5 hr5 hb5 hk5)
  refine bodyPost_ret (results_cell_row rfl _ _ w.heap.size 71 #[_, _] (0, 0) _ rfl (blk_put (blk_put HF5.out 0 _ rfl) 1 _ rfl) Tryz.underlying71 rfl (by kernel_rfl)) rfl ?_
  have h2 := blk_set HF5.out 0 (.int .i64 (wrap64 ((hd.size : Int) + 1 + a)))
  have hBw : B ≤ w.heap.size := by omega
  refine ⟨rfl, ?_, Kd.R_set (Kd.R_set HR5.out HF5.out (by decide) 0 _) h2 (by decide) 1 _, ?_, keep_far (keep_far HK5.out (Nat.le_refl _) 0 _) (Nat.le_refl _) 1 _⟩
  · exact blk_far (blk_far HA5.out (p := ⟨w.heap.size, 0, none⟩) (by simp; omega) _) (p := ⟨w.heap.size, 1, none⟩) (by simp; omega) _
  · exact (HB5.out.setCell (p := ⟨w.heap.size, 0, none⟩) hBw _).setCell (p := ⟨w.heap.size, 1, none⟩) hBw _

end Go.Proofs.YtfeciafdioepiaaGreatDoor
set_option linter.unusedVariables false
set_option linter.unusedSimpArgs false
namespace Go.Proofs.YtfeciafdioepiaaGreatDoor
open Go.RowKit Go.Shelf Go.Proofs Go.Proofs.YtfeciafdioepiaaGreatDoorW.PrintWords Go.Proofs.YtfeciafdioepiaaGreatDoorW.PrintMore Go.Proofs.YtfeciafdioepiaaGreatDoor.PA
attribute [local go_sem] Oper.semAt_some

def fldsA (s : ByteArray) : List S76 := (parseP (headA s).1.data.toList).1.map toS
def atA (s : ByteArray) : Int := (parseP (headA s).1.data.toList).2.1
def errA (s : ByteArray) : Int := (parseP (headA s).1.data.toList).2.2
def restA (s : ByteArray) : ByteArray := s.extract ((headA s).1.size + 1) s.size
def GV.AParse.f (k : Nat) (s : ByteArray) : Option (List S76 × ByteArray × Int × Int) :=
  if 65536 < s.size then some ([], ⟨#[]⟩, 65536, 5)
  else if errA s ≠ 0 then some ([], ⟨#[]⟩, atA s, errA s)
  else if (headA s).2 = false then some ([], ⟨#[]⟩, (s.size : Int), 4)
  else (PC.article_CheckBody.f k (restA s)).bind fun x => if x.2 ≠ 0 then some ([], ⟨#[]⟩, wrap64 (((headA s).1.size : Int) + 1 + x.1), x.2) else some (fldsA s, restA s, 0, 0)
theorem headA_len (s : ByteArray) (h : (headA s).2 = true) : (headA s).1.size + 1 ≤ s.size := by
  unfold headA at h ⊢
  split
  · rename_i hp
    have h4 : [10] <+: s.data.toList := List.isPrefixOf_iff_prefix.1 hp
    have := h4.length_le
    simp at this
    show 0 + 1 ≤ s.size
    omega
  · split
    · rename_i h1 h2
      have := index2_lt _ h2
      simp at this ⊢
      omega
    · rename_i h1 h2
      simp [h1, h2] at h

/-- Where the parser stands ahead of a step. -/
def AtStep (k : Nat) (s : ByteArray) (g n : Nat) (wr : World) : Nat → Prop
  | 0 => Art g s ⟨#[]⟩ false (.slice none 0 0) ⟨#[]⟩ wr
  | 1 => s.size ≤ 65536 ∧ Art g s ⟨#[]⟩ false (.slice none 0 0) ⟨#[]⟩ wr
  | 2 => s.size ≤ 65536 ∧ errA s = 0 ∧ ∃ v, Art g s (headA s).1 (headA s).2 v ⟨#[]⟩ wr ∧ Kd.R k76 76 wr n (fun _ => True) v (fldsA s)
  | 3 => s.size ≤ 65536 ∧ errA s = 0 ∧ (headA s).2 = true ∧ ∃ v, Art g s (headA s).1 true v ⟨#[]⟩ wr ∧ Kd.R k76 76 wr n (fun _ => True) v (fldsA s)
  | 4 => s.size ≤ 65536 ∧ errA s = 0 ∧ (headA s).2 = true ∧ (∃ a, PC.article_CheckBody.f k (restA s) = some (a, 0)) ∧ ∃ v, Art g s (headA s).1 true v (restA s) wr ∧ Kd.R k76 76 wr n (fun _ => True) v (fldsA s)
  | _ => False

/-- A step of the parser: it fails, and the answer is known, or it goes on. -/
theorem step_any (k : Nat) (s : ByteArray) (g n : Nat) (wr : World) (j : Nat) (r : List S76 × ByteArray × Int × Int) (hB : n ≤ g) (h0 : 0 < n) (hgm : Gm wr) (hf : GV.AParse.f k s = some r) (hj : j < 4) (h : AtStep k s g n wr j) :
    (∃ a c, c ≠ 0 ∧ r = ([], ⟨#[]⟩, a, c) ∧ Calls Tryz.prog (33 + j) #[.pointer (some ⟨g, 0, none⟩)] wr fun e w' => e = .returned (failV a c) ∧ Below n wr w' ∧ KeepBut wr w' g none) ∨
    (∃ a, Calls Tryz.prog (33 + j) #[.pointer (some ⟨g, 0, none⟩)] wr fun e w' => e = .returned (failV a 0) ∧ AtStep k s g n w' (j + 1) ∧ Below n wr w' ∧ KeepBut wr w' g none) := by
  have hkeep : ∀ {w' : World}, Below wr.heap.size wr w' → KeepBut wr w' g none := fun hb => keep_below (KeepBut.refl wr g none) hb
  have hnle : n ≤ wr.heap.size := by
    have : g < wr.heap.size := by
      match j, h with
      | 0, h => exact blk_lt h
      | 1, h => exact blk_lt h.2
      | 2, h => obtain ⟨_, _, v, ha, _⟩ := h; exact blk_lt ha
      | 3, h => obtain ⟨_, _, _, v, ha, _⟩ := h; exact blk_lt ha
    omega
  unfold GV.AParse.f at hf
  match j, hj, h with
  | 0, _, h =>
    have hL := length_any _ _ _ _ _ _ _ h
    by_cases hz : 65536 < s.size
    · rw [if_pos hz] at hf hL
      refine .inl ⟨65536, 5, by decide, by simpa using hf.symm, hL.mono ?_⟩
      rintro e w' ⟨he, hb⟩
      exact ⟨he, hb.mono hnle, hkeep hb⟩
    · rw [if_neg hz] at hL
      refine .inr ⟨0, hL.mono ?_⟩
      rintro e w' ⟨he, hb⟩
      exact ⟨he, ⟨by omega, blk_below h hb⟩, hb.mono hnle, hkeep hb⟩
  | 1, _, h =>
    obtain ⟨hz, ha⟩ := h
    rw [if_neg (by omega)] at hf
    have hH := aheader_any n g s ⟨#[]⟩ _ wr hB h0 hgm hz ha
    by_cases he : errA s = 0
    · refine .inr ⟨atA s, hH.mono ?_⟩
      rintro e w' ⟨v', hr, hA, hR, hb, hk⟩
      refine ⟨?_, ⟨hz, he, v', hA, hR⟩, hb, hk⟩
      rw [hr]; show Ending.returned (failV (atA s) (errA s)) = _; rw [he]
    · rw [if_pos he] at hf
      refine .inl ⟨atA s, errA s, he, by simpa using hf.symm, hH.mono ?_⟩
      rintro e w' ⟨v', hr, hA, hR, hb, hk⟩
      exact ⟨hr, hb, hk⟩
  | 2, _, h =>
    obtain ⟨hz, he, v, ha, hR⟩ := h
    rw [if_neg (by omega), if_neg (by simp [he])] at hf
    have hS := separation_any _ _ _ _ _ _ _ ha
    by_cases hfd : (headA s).2 = true
    · rw [if_pos hfd] at hS
      refine .inr ⟨0, hS.mono ?_⟩
      rintro e w' ⟨hr, hb⟩
      refine ⟨hr, ⟨hz, he, hfd, v, ?_, Kd.R_below hR hb⟩, hb.mono hnle, hkeep hb⟩
      rw [hfd] at ha
      exact blk_below ha hb
    · rw [if_neg hfd] at hS
      rw [if_pos (Bool.eq_false_iff.2 hfd)] at hf
      refine .inl ⟨(s.size : Int), 4, by decide, by simpa using hf.symm, hS.mono ?_⟩
      rintro e w' ⟨hr, hb⟩
      exact ⟨hr, hb.mono hnle, hkeep hb⟩
  | 3, _, h =>
    obtain ⟨hz, he, hfd, v, ha, hR⟩ := h
    rw [if_neg (by omega), if_neg (by simp [he]), if_neg (by simp [hfd])] at hf
    have hlen := headA_len s hfd
    cases hc : PC.article_CheckBody.f k (restA s) with
    | none => rw [hc] at hf; simp at hf
    | some x =>
      obtain ⟨a, c⟩ := x
      rw [hc] at hf
      have hB' := abody_any n g s (headA s).1 ⟨#[]⟩ v wr (fldsA s) hB h0 hz hlen ha hR k a c hc
      simp only [Option.bind_some] at hf
      by_cases hc0 : c = 0
      · subst hc0
        refine .inr ⟨wrap64 (((headA s).1.size : Int) + 1 + a), hB'.mono ?_⟩
        rintro e w' ⟨hr, hA, hR', hb, hk⟩
        exact ⟨hr, ⟨hz, he, hfd, ⟨a, hc⟩, v, hA, hR'⟩, hb, hk⟩
      · rw [if_pos hc0] at hf
        refine .inl ⟨_, c, hc0, by simpa using hf.symm, hB'.mono ?_⟩
        rintro e w' ⟨hr, hA, hR', hb, hk⟩
        exact ⟨hr, hb, hk⟩

theorem AtStep.below {k : Nat} {s : ByteArray} {g n : Nat} {w w' : World} {j : Nat} (h : AtStep k s g n w j) (hb : Below w.heap.size w w') : AtStep k s g n w' j := by
  match j, h with
  | 0, h => exact blk_below h hb
  | 1, h => exact ⟨h.1, blk_below h.2 hb⟩
  | 2, ⟨h1, h2, v, ha, hr⟩ => exact ⟨h1, h2, v, blk_below ha hb, Kd.R_below hr hb⟩
  | 3, ⟨h1, h2, h3, v, ha, hr⟩ => exact ⟨h1, h2, h3, v, blk_below ha hb, Kd.R_below hr hb⟩
  | 4, ⟨h1, h2, h3, h4, v, ha, hr⟩ => exact ⟨h1, h2, h3, h4, v, blk_below ha hb, Kd.R_below hr hb⟩
theorem blk_at2 (w : World) (o o1 : Obj) : ((w.alloc o).alloc o1).heap[w.heap.size + 1]? = some o1 := heap_alloc2_new w o o1
theorem blk_at3 (w : World) (o o1 o2 : Obj) : (((w.alloc o).alloc o1).alloc o2).heap[w.heap.size + 1 + 1]? = some o2 := by
  have := heap_alloc2_new (w.alloc o) o1 o2
  simpa using this
set_option maxHeartbeats 8000000 in
theorem GV.AParse.calls (k : Nat) (s : ByteArray) (r1 : List S76) (r2 : ByteArray) (r3 r4 : Int) (w : World) (hgm : Gm w) (h : GV.AParse.f k s = some (r1, r2, r3, r4)) :
    Calls Tryz.prog 12 #[.string s] w fun e w' => ∃ v0 : Value, e = .returned (.tuple #[.agg #[v0, .string r2], .int .i64 r3, .int .i64 r4]) ∧ Kd.R k76 76 w' w.heap.size (fun _ => True) v0 r1 ∧ Below w.heap.size w w' := by
  have H := Lib.hid h
  have HG := Aside0.mk hgm
  have h0 : 0 < w.heap.size := by
    obtain ⟨m, hm⟩ := hgm
    exact Nat.lt_of_le_of_lt (Nat.zero_le _) (World.block_lt_of_cell? w _ hm)
  clear h hgm
  go_enter Tryz.func12, Tryz.ntmps12
  go_wp2
  go_loopg [22] 5 (fun kq v22 wr => ∃ j : Nat, v22 = .int .i64 (j : Int) ∧ Aside0 (AtStep k s (w.heap.size + 1) w.heap.size wr j) ∧ Aside0 (wr.heap[w.heap.size]? = some (.cells #[.slice none 0 0, .string ⟨#[]⟩] 25 (0, 0))) ∧
    Aside0 (wr.heap[w.heap.size + 1 + 1]? = some (.cells #[.func (.func 33) #[.pointer (some ⟨w.heap.size + 1, 0, none⟩)] #[], .func (.func 34) #[.pointer (some ⟨w.heap.size + 1, 0, none⟩)] #[],
      .func (.func 35) #[.pointer (some ⟨w.heap.size + 1, 0, none⟩)] #[], .func (.func 36) #[.pointer (some ⟨w.heap.size + 1, 0, none⟩)] #[]] 68 (0, 0))) ∧ Aside0 (Below w.heap.size w wr) ∧ Aside0 (j + kq = 5))
  case atStart =>
    exact ⟨0, rfl, ⟨blk_alloc (blk_at2 w _ _) _⟩, ⟨blk_alloc (blk_alloc (blk_new w _) _) _⟩, ⟨blk_at3 w _ _ _⟩, ⟨below_alloc (below_alloc (below_alloc (Below.refl _ _) _) _) _⟩, ⟨rfl⟩⟩
  case round =>
    obtain ⟨j, rfl, HS, HR, HF, HW, HJ⟩ := hrel
    have hn1 : w.heap.size < wr.heap.size := blk_lt HR.out
    have hn2 : w.heap.size + 1 + 1 < wr.heap.size := blk_lt HF.out
    have hgw : Gm wr := HG.out.below HW.out h0
    match j, HS, HJ with
    | 0, HS, HJ =>
      obtain ⟨gk, rfl⟩ : ∃ m, gk = m + 1 := ⟨gk - 1, by have := HJ.out; omega⟩
      have hcf : wr.cell? ⟨w.heap.size + 1 + 1, 0, none⟩ = some (.func (.func 33) #[.pointer (some ⟨w.heap.size + 1, 0, none⟩)] #[]) := (blk_cell HF.out 0).trans rfl
      rcases step_any k s (w.heap.size + 1) w.heap.size wr 0 _ (Nat.le_succ _) h0 hgw H.out (by decide) HS.out with ⟨a, c, hc, hres, hL⟩ | ⟨a, hL⟩
      · have HL := Lib.hid hL
        obtain ⟨rfl, rfl, rfl, rfl⟩ : r1 = [] ∧ r2 = ⟨#[]⟩ ∧ r3 = a ∧ r4 = c := by simpa using hres
        have hcb : (r4 != 0) = true := bne_iff_ne.2 hc
        clear hL hc hgw
        go_wp2_with (go_at_call 33; refine HL.out.mono ?_; rintro e w5 ⟨rfl, hb5, hk5⟩; unfold failV; have hr5 := (hk5.2 _ hn1 (by omega) (by simp)).trans HR.out; have hf5 := (hk5.2 _ hn2 (by omega) (by simp)).trans HF.out; have hcn0 : w5.cell? ⟨w.heap.size, 0, none⟩ = some (.slice none 0 0) := (blk_cell hr5 0).trans rfl; have hcn1 : w5.cell? ⟨w.heap.size, 1, none⟩ = some (.string ⟨#[]⟩) := (blk_cell hr5 1).trans rfl; have hfn0 := blk_frozen hr5 0; have hfn1 := blk_frozen hr5 1; have hlt5 := blk_lt hr5; have HR5 := Aside0.mk hr5; have HF5 := Aside0.mk hf5; have HB5 := Aside0.mk (HW.out.trans hb5); clear hb5 hr5 hf5 hk5)
        go_region_with (fail)
        all_goals (
          go_wp2
          refine bodyPost_ret (results_ctt rfl _ _ _ 25 #[.slice none 0 0, .string ⟨#[]⟩] (0, 0) _ rfl (by repeat (first | assumption | exact (Aside0.out (by assumption)) | refine blk_drewN ?_ _ | refine blk_drew ?_ | refine blk_alloc ?_ _ | refine blk_put (cs := #[.slice none 0 0, .string ⟨#[]⟩]) ?_ _ _ rfl)) Tryz.underlying25 rfl (by kernel_rfl)) rfl ?_
          exact ⟨.slice none 0 0, rfl, Kd.R_nil _ _ _ _ _, by repeat (first | exact (Aside0.out (by assumption)) | apply below_alloc | apply pw_below_drewN | apply below_drew1 | refine below_set ?_ (Nat.le_refl _))⟩)
      · have HL := Lib.hid hL
        clear hL hgw
        go_wp2_with (go_at_call 33; refine HL.out.mono ?_; rintro e w5 ⟨rfl, hs5, hb5, hk5⟩; unfold failV; have HS5 := Aside0.mk hs5; clear hs5; have hr5 := (hk5.2 _ hn1 (by omega) (by simp)).trans HR.out; have hf5 := (hk5.2 _ hn2 (by omega) (by simp)).trans HF.out; have hcn0 : w5.cell? ⟨w.heap.size, 0, none⟩ = some (.slice none 0 0) := (blk_cell hr5 0).trans rfl; have hcn1 : w5.cell? ⟨w.heap.size, 1, none⟩ = some (.string ⟨#[]⟩) := (blk_cell hr5 1).trans rfl; have hfn0 := blk_frozen hr5 0; have hfn1 := blk_frozen hr5 1; have hlt5 := blk_lt hr5; have HR5 := Aside0.mk hr5; have HF5 := Aside0.mk hf5; have HB5 := Aside0.mk (HW.out.trans hb5); clear hb5 hr5 hf5 hk5)
        go_roundg gk
        case measure => omega
        case rel => exact ⟨1, rfl, ⟨HS5.out.below ((Below.refl _ _).alloc (Nat.le_refl _) _)⟩, ⟨blk_alloc HR5.out _⟩, ⟨blk_alloc HF5.out _⟩, ⟨below_alloc HB5.out _⟩, ⟨by have := HJ.out; omega⟩⟩
    | 1, HS, HJ =>
      obtain ⟨gk, rfl⟩ : ∃ m, gk = m + 1 := ⟨gk - 1, by have := HJ.out; omega⟩
      have hcf : wr.cell? ⟨w.heap.size + 1 + 1, 1, none⟩ = some (.func (.func 34) #[.pointer (some ⟨w.heap.size + 1, 0, none⟩)] #[]) := (blk_cell HF.out 1).trans rfl
      rcases step_any k s (w.heap.size + 1) w.heap.size wr 1 _ (Nat.le_succ _) h0 hgw H.out (by decide) HS.out with ⟨a, c, hc, hres, hL⟩ | ⟨a, hL⟩
      · have HL := Lib.hid hL
        obtain ⟨rfl, rfl, rfl, rfl⟩ : r1 = [] ∧ r2 = ⟨#[]⟩ ∧ r3 = a ∧ r4 = c := by simpa using hres
        have hcb : (r4 != 0) = true := bne_iff_ne.2 hc
        clear hL hc hgw
        go_wp2_with (go_at_call 34; refine HL.out.mono ?_; rintro e w5 ⟨rfl, hb5, hk5⟩; unfold failV; have hr5 := (hk5.2 _ hn1 (by omega) (by simp)).trans HR.out; have hf5 := (hk5.2 _ hn2 (by omega) (by simp)).trans HF.out; have hcn0 : w5.cell? ⟨w.heap.size, 0, none⟩ = some (.slice none 0 0) := (blk_cell hr5 0).trans rfl; have hcn1 : w5.cell? ⟨w.heap.size, 1, none⟩ = some (.string ⟨#[]⟩) := (blk_cell hr5 1).trans rfl; have hfn0 := blk_frozen hr5 0; have hfn1 := blk_frozen hr5 1; have hlt5 := blk_lt hr5; have HR5 := Aside0.mk hr5; have HF5 := Aside0.mk hf5; have HB5 := Aside0.mk (HW.out.trans hb5); clear hb5 hr5 hf5 hk5)
        go_region_with (fail)
        all_goals (
          go_wp2
          refine bodyPost_ret (results_ctt rfl _ _ _ 25 #[.slice none 0 0, .string ⟨#[]⟩] (0, 0) _ rfl (by repeat (first | assumption | exact (Aside0.out (by assumption)) | refine blk_drewN ?_ _ | refine blk_drew ?_ | refine blk_alloc ?_ _ | refine blk_put (cs := #[.slice none 0 0, .string ⟨#[]⟩]) ?_ _ _ rfl)) Tryz.underlying25 rfl (by kernel_rfl)) rfl ?_
          exact ⟨.slice none 0 0, rfl, Kd.R_nil _ _ _ _ _, by repeat (first | exact (Aside0.out (by assumption)) | apply below_alloc | apply pw_below_drewN | apply below_drew1 | refine below_set ?_ (Nat.le_refl _))⟩)
      · have HL := Lib.hid hL
        clear hL hgw
        go_wp2_with (go_at_call 34; refine HL.out.mono ?_; rintro e w5 ⟨rfl, hs5, hb5, hk5⟩; unfold failV; have HS5 := Aside0.mk hs5; clear hs5; have hr5 := (hk5.2 _ hn1 (by omega) (by simp)).trans HR.out; have hf5 := (hk5.2 _ hn2 (by omega) (by simp)).trans HF.out; have hcn0 : w5.cell? ⟨w.heap.size, 0, none⟩ = some (.slice none 0 0) := (blk_cell hr5 0).trans rfl; have hcn1 : w5.cell? ⟨w.heap.size, 1, none⟩ = some (.string ⟨#[]⟩) := (blk_cell hr5 1).trans rfl; have hfn0 := blk_frozen hr5 0; have hfn1 := blk_frozen hr5 1; have hlt5 := blk_lt hr5; have HR5 := Aside0.mk hr5; have HF5 := Aside0.mk hf5; have HB5 := Aside0.mk (HW.out.trans hb5); clear hb5 hr5 hf5 hk5)
        go_roundg gk
        case measure => omega
        case rel => exact ⟨2, rfl, ⟨HS5.out.below ((Below.refl _ _).alloc (Nat.le_refl _) _)⟩, ⟨blk_alloc HR5.out _⟩, ⟨blk_alloc HF5.out _⟩, ⟨below_alloc HB5.out _⟩, ⟨by have := HJ.out; omega⟩⟩
    | 2, HS, HJ =>
      obtain ⟨gk, rfl⟩ : ∃ m, gk = m + 1 := ⟨gk - 1, by have := HJ.out; omega⟩
      have hcf : wr.cell? ⟨w.heap.size + 1 + 1, 2, none⟩ = some (.func (.func 35) #[.pointer (some ⟨w.heap.size + 1, 0, none⟩)] #[]) := (blk_cell HF.out 2).trans rfl
      rcases step_any k s (w.heap.size + 1) w.heap.size wr 2 _ (Nat.le_succ _) h0 hgw H.out (by decide) HS.out with ⟨a, c, hc, hres, hL⟩ | ⟨a, hL⟩
      · have HL := Lib.hid hL
        obtain ⟨rfl, rfl, rfl, rfl⟩ : r1 = [] ∧ r2 = ⟨#[]⟩ ∧ r3 = a ∧ r4 = c := by simpa using hres
        have hcb : (r4 != 0) = true := bne_iff_ne.2 hc
        clear hL hc hgw
        go_wp2_with (go_at_call 35; refine HL.out.mono ?_; rintro e w5 ⟨rfl, hb5, hk5⟩; unfold failV; have hr5 := (hk5.2 _ hn1 (by omega) (by simp)).trans HR.out; have hf5 := (hk5.2 _ hn2 (by omega) (by simp)).trans HF.out; have hcn0 : w5.cell? ⟨w.heap.size, 0, none⟩ = some (.slice none 0 0) := (blk_cell hr5 0).trans rfl; have hcn1 : w5.cell? ⟨w.heap.size, 1, none⟩ = some (.string ⟨#[]⟩) := (blk_cell hr5 1).trans rfl; have hfn0 := blk_frozen hr5 0; have hfn1 := blk_frozen hr5 1; have hlt5 := blk_lt hr5; have HR5 := Aside0.mk hr5; have HF5 := Aside0.mk hf5; have HB5 := Aside0.mk (HW.out.trans hb5); clear hb5 hr5 hf5 hk5)
        go_region_with (fail)
        all_goals (
          go_wp2
          refine bodyPost_ret (results_ctt rfl _ _ _ 25 #[.slice none 0 0, .string ⟨#[]⟩] (0, 0) _ rfl (by repeat (first | assumption | exact (Aside0.out (by assumption)) | refine blk_drewN ?_ _ | refine blk_drew ?_ | refine blk_alloc ?_ _ | refine blk_put (cs := #[.slice none 0 0, .string ⟨#[]⟩]) ?_ _ _ rfl)) Tryz.underlying25 rfl (by kernel_rfl)) rfl ?_
          exact ⟨.slice none 0 0, rfl, Kd.R_nil _ _ _ _ _, by repeat (first | exact (Aside0.out (by assumption)) | apply below_alloc | apply pw_below_drewN | apply below_drew1 | refine below_set ?_ (Nat.le_refl _))⟩)
      · have HL := Lib.hid hL
        clear hL hgw
        go_wp2_with (go_at_call 35; refine HL.out.mono ?_; rintro e w5 ⟨rfl, hs5, hb5, hk5⟩; unfold failV; have HS5 := Aside0.mk hs5; clear hs5; have hr5 := (hk5.2 _ hn1 (by omega) (by simp)).trans HR.out; have hf5 := (hk5.2 _ hn2 (by omega) (by simp)).trans HF.out; have hcn0 : w5.cell? ⟨w.heap.size, 0, none⟩ = some (.slice none 0 0) := (blk_cell hr5 0).trans rfl; have hcn1 : w5.cell? ⟨w.heap.size, 1, none⟩ = some (.string ⟨#[]⟩) := (blk_cell hr5 1).trans rfl; have hfn0 := blk_frozen hr5 0; have hfn1 := blk_frozen hr5 1; have hlt5 := blk_lt hr5; have HR5 := Aside0.mk hr5; have HF5 := Aside0.mk hf5; have HB5 := Aside0.mk (HW.out.trans hb5); clear hb5 hr5 hf5 hk5)
        go_roundg gk
        case measure => omega
        case rel => exact ⟨3, rfl, ⟨HS5.out.below ((Below.refl _ _).alloc (Nat.le_refl _) _)⟩, ⟨blk_alloc HR5.out _⟩, ⟨blk_alloc HF5.out _⟩, ⟨below_alloc HB5.out _⟩, ⟨by have := HJ.out; omega⟩⟩
    | 3, HS, HJ =>
      obtain ⟨gk, rfl⟩ : ∃ m, gk = m + 1 := ⟨gk - 1, by have := HJ.out; omega⟩
      have hcf : wr.cell? ⟨w.heap.size + 1 + 1, 3, none⟩ = some (.func (.func 36) #[.pointer (some ⟨w.heap.size + 1, 0, none⟩)] #[]) := (blk_cell HF.out 3).trans rfl
      rcases step_any k s (w.heap.size + 1) w.heap.size wr 3 _ (Nat.le_succ _) h0 hgw H.out (by decide) HS.out with ⟨a, c, hc, hres, hL⟩ | ⟨a, hL⟩
      · have HL := Lib.hid hL
        obtain ⟨rfl, rfl, rfl, rfl⟩ : r1 = [] ∧ r2 = ⟨#[]⟩ ∧ r3 = a ∧ r4 = c := by simpa using hres
        have hcb : (r4 != 0) = true := bne_iff_ne.2 hc
        clear hL hc hgw
        go_wp2_with (go_at_call 36; refine HL.out.mono ?_; rintro e w5 ⟨rfl, hb5, hk5⟩; unfold failV; have hr5 := (hk5.2 _ hn1 (by omega) (by simp)).trans HR.out; have hf5 := (hk5.2 _ hn2 (by omega) (by simp)).trans HF.out; have hcn0 : w5.cell? ⟨w.heap.size, 0, none⟩ = some (.slice none 0 0) := (blk_cell hr5 0).trans rfl; have hcn1 : w5.cell? ⟨w.heap.size, 1, none⟩ = some (.string ⟨#[]⟩) := (blk_cell hr5 1).trans rfl; have hfn0 := blk_frozen hr5 0; have hfn1 := blk_frozen hr5 1; have hlt5 := blk_lt hr5; have HR5 := Aside0.mk hr5; have HF5 := Aside0.mk hf5; have HB5 := Aside0.mk (HW.out.trans hb5); clear hb5 hr5 hf5 hk5)
        go_region_with (fail)
        all_goals (
          go_wp2
          refine bodyPost_ret (results_ctt rfl _ _ _ 25 #[.slice none 0 0, .string ⟨#[]⟩] (0, 0) _ rfl (by repeat (first | assumption | exact (Aside0.out (by assumption)) | refine blk_drewN ?_ _ | refine blk_drew ?_ | refine blk_alloc ?_ _ | refine blk_put (cs := #[.slice none 0 0, .string ⟨#[]⟩]) ?_ _ _ rfl)) Tryz.underlying25 rfl (by kernel_rfl)) rfl ?_
          exact ⟨.slice none 0 0, rfl, Kd.R_nil _ _ _ _ _, by repeat (first | exact (Aside0.out (by assumption)) | apply below_alloc | apply pw_below_drewN | apply below_drew1 | refine below_set ?_ (Nat.le_refl _))⟩)
      · have HL := Lib.hid hL
        clear hL hgw
        go_wp2_with (go_at_call 36; refine HL.out.mono ?_; rintro e w5 ⟨rfl, hs5, hb5, hk5⟩; unfold failV; have HS5 := Aside0.mk hs5; clear hs5; have hr5 := (hk5.2 _ hn1 (by omega) (by simp)).trans HR.out; have hf5 := (hk5.2 _ hn2 (by omega) (by simp)).trans HF.out; have hcn0 : w5.cell? ⟨w.heap.size, 0, none⟩ = some (.slice none 0 0) := (blk_cell hr5 0).trans rfl; have hcn1 : w5.cell? ⟨w.heap.size, 1, none⟩ = some (.string ⟨#[]⟩) := (blk_cell hr5 1).trans rfl; have hfn0 := blk_frozen hr5 0; have hfn1 := blk_frozen hr5 1; have hlt5 := blk_lt hr5; have HR5 := Aside0.mk hr5; have HF5 := Aside0.mk hf5; have HB5 := Aside0.mk (HW.out.trans hb5); clear hb5 hr5 hf5 hk5)
        go_roundg gk
        case measure => omega
        case rel => exact ⟨4, rfl, ⟨HS5.out.below ((Below.refl _ _).alloc (Nat.le_refl _) _)⟩, ⟨blk_alloc HR5.out _⟩, ⟨blk_alloc HF5.out _⟩, ⟨below_alloc HB5.out _⟩, ⟨by have := HJ.out; omega⟩⟩
    | 4, HS, HJ =>
      obtain ⟨gk, rfl⟩ : ∃ m, gk = m + 1 := ⟨gk - 1, by have := HJ.out; omega⟩
      obtain ⟨hz, he, hfd, ⟨a, hcb⟩, v, ha, hR⟩ := HS.out
      have hres : r1 = fldsA s ∧ r2 = restA s ∧ r3 = 0 ∧ r4 = 0 := by
        have hf := H.out
        unfold GV.AParse.f at hf
        rw [if_neg (by omega), if_neg (by simp [he]), if_neg (by simp [hfd]), hcb] at hf
        simp at hf
        obtain ⟨h1, h2, h3, h4⟩ := hf
        exact ⟨h1.symm, h2.symm, h3.symm, h4.symm⟩
      obtain ⟨rfl, rfl, rfl, rfl⟩ := hres
      have hcn0 : wr.cell? ⟨w.heap.size, 0, none⟩ = some (.slice none 0 0) := (blk_cell HR.out 0).trans rfl
      have hcn1 : wr.cell? ⟨w.heap.size, 1, none⟩ = some (.string ⟨#[]⟩) := (blk_cell HR.out 1).trans rfl
      have hcg3 : wr.cell? ⟨w.heap.size + 1, 3, none⟩ = some v := (blk_cell ha 3).trans rfl
      have hcg4 : wr.cell? ⟨w.heap.size + 1, 4, none⟩ = some (.string (restA s)) := (blk_cell ha 4).trans rfl
      have hfn0 := blk_frozen HR.out 0
      have hfn1 := blk_frozen HR.out 1
      obtain ⟨A5, c5, e5⟩ := Kd.R_slice hR
      subst e5
      have HA := Aside0.mk ha
      have HR0 := Aside0.mk hR
      clear ha hR hcb hgw hz he hfd
      go_wp2
      refine bodyPost_ret (results_ctt rfl _ _ _ 25 #[.slice A5 _ c5, .string (restA s)] (0, 0) _ rfl (blk_put (blk_put HR.out 0 _ rfl) 1 _ rfl) Tryz.underlying25 rfl (by kernel_rfl)) rfl ?_
      exact ⟨_, rfl, Kd.R_set (Kd.R_set HR0.out HR.out (by decide) 0 _) (blk_set HR.out 0 _) (by decide) 1 _, below_set (below_set HW.out (Nat.le_refl _)) (Nat.le_refl _)⟩
    | j + 5, HS, HJ => exact HS.out.elim

end Go.Proofs.YtfeciafdioepiaaGreatDoor
set_option linter.unusedVariables false
set_option linter.unusedSimpArgs false
namespace Go.Proofs.YtfeciafdioepiaaGreatDoor
open Go.RowKit Go.Shelf Go.Proofs

theorem range_law2 {α : Type} {n : Nat} {P : Program} {g : Operand} {ps : Array Tmp} {assign body : Code} {Q : Exit → Act → World → Prop} {a : Act} {w : World}
    {gf : Nat} {lb : Array Value} (hg : a.eval g = .func (.func gf) #[] lb) (eg : ∀ args w, (callFunc gf args).run P w = .ok (.enter gf args) w)
    {encs : α → Array Value} {In : World → Prop} {Mv : World → World → Prop} {Rd : World → Prop} {S Sp : List α → Prop} {Lt : List α → α → Prop} (hseq : Iter P gf lb encs In Mv Rd S Sp Lt)
    (hMv : ∀ W W', Mv W W' → KeepsOthers W W') (hps : ∀ x, (encs x).size = ps.size)
    (I : List α → World → Prop) (Ix : Code → List α → World → Prop) (hIm : ∀ pre W W', I pre W → Mv W W' → I pre W') (hIr : ∀ pre W, I pre W → Rd W)
    (hIp : ∀ pre W l o, w.heap.size ≤ l → (∃ o0, W.heap[l]? = some o0 ∧ o0.isCells = false) → I pre W → I pre (W.putObj l o)) (hIxp : ∀ c pre W l o, w.heap.size ≤ l → (∃ o0, W.heap[l]? = some o0 ∧ o0.isCells = false) → Ix c pre W → Ix c pre (W.putObj l o))
    (h0 : ∀ o o', I [] ((w.alloc o).alloc o')) (hin : ∀ o o', In ((w.alloc o).alloc o')) (a₁ : α → Act)
    (hassign : ∀ (l : Nat) (x : α) (W : World) (K : Act → World → Prop), K (a₁ x) W →
      assign.wpIn (Fence.wide.inRound l) (n - 1 - 1) P (Exit.then K (fun _ _ _ => False)) { tmps := (ps.zip (encs x)).foldl (fun t (p, v) => t.setIfInBounds p v) a.tmps, defers := [] } W)
    (hbody : ∀ (l : Nat) (pre : List α) (x : α) (W : World), I pre W → Lt pre x → body.wpIn (Fence.wide.inRound l) (n - 1 - 1) P (roundEnds I Ix (pre ++ [x]) W) (a₁ x) W)
    (hdone : ∀ (D : Nat) (xs : List α) (W : World), w.heap.size ≤ D → S xs → I xs W → W.heap[D]? = some (.deferred (some [])) → Q .normal { a with defers := { target := .collected D, args := #[] } :: a.defers } W)
    (hstop : ∀ (D : Nat) (c : Code) (pre : List α) (W : World), w.heap.size ≤ D → Sp pre → Ix c pre W → W.heap[D]? = some (.deferred (some [])) → c.wpIn Fence.wide n P Q { a with defers := { target := .collected D, args := #[] } :: a.defers } W) :
    (Code.rangeFunc g ps assign body).wpIn Fence.wide n P Q a w := by
  refine wpIn_rangeFunc fun fn hfn => ?_
  generalize hD : w.heap.size = D at *
  let R : LoopState → Option Code → Obj := fun st pe => .loop { state := st, pending := pe, fn, tmps := a.tmps, params := ps, assign, body, defers := D }
  let W1 := (w.alloc (.deferred (some []))).alloc (R .ready none)
  have hL : W1.heap[D + 1]? = some (R .ready none) := by
    have := World.alloc_heap_new (w.alloc (.deferred (some []))) (R .ready none)
    rwa [World.size_alloc, hD] at this
  have hK : W1.heap[D]? = some (.deferred (some [])) := by
    have h1 : (w.alloc (.deferred (some []))).heap[D]? = some (.deferred (some [])) := by rw [← hD]; exact World.alloc_heap_new w _
    exact (Below.heap_alloc _ _ _ (by rw [World.size_alloc, hD]; omega)).trans h1
  -- what the iterator is told to keep, and what holds where a round has stopped it
  let J : List α → World → Prop := fun pre W => I pre W ∧ W.heap[D + 1]? = some (R .ready none) ∧ W.heap[D]? = some (.deferred (some []))
  let Jx : List α → World → Prop := fun pre W => ∃ c, Ix c pre W ∧ W.heap[D + 1]? = some (R .done (some c)) ∧ W.heap[D]? = some (.deferred (some []))
  have hit := hseq (n - 1) (D + 1) J Jx W1
    (fun pre W W' h hm => ⟨hIm _ _ _ h.1 hm, (hMv _ _ hm).same _ _ h.2.1 rfl, (hMv _ _ hm).same _ _ h.2.2 rfl⟩) (fun pre W h => hIr _ _ h.1)
  refine ⟨D + 1, [{ target := .collected D, args := #[] }], W1, { target := .fn (.func gf) lb, args := #[.func (.yield (D + 1)) #[] #[]] }, W1, gf, #[.func (.yield (D + 1)) #[] #[]] ++ lb, W1, ?_, ?_, fun _ _ => trivial, ?_, (fun h => nomatch h), ?_⟩
  · have := run_enterLoop_outer (P := P) (w := w) fn a.tmps ps assign body
    rw [hD] at this
    exact this
  · simp only [resolve, hg]
    simp [go_sem]
  · simp [invoke, go_sem, eg]
  refine (hit ?_ ⟨h0 _ _, hL, hK⟩ (hin _ _)).mono ?_
  · -- a round
    rintro pre x W ⟨hi, hl, hk⟩ hlt
    have hsz : D + 1 < W.heap.size := (Array.getElem?_eq_some_iff.1 hl).1
    refine ⟨fn, _, assign, body, run_yield hl (hps x), roundIn_of_wpIn hfn (hassign _ x W _ ⟨_, run_beginRound hl rfl, ?_⟩)⟩
    have hl2 : (W.putObj (D + 1) (R .busy none)).heap[D + 1]? = some (R .busy none) := World.putObj_heap_same hsz
    have hk2 : (W.putObj (D + 1) (R .busy none)).heap[D]? = some (.deferred (some [])) := (World.putObj_heap_other (by omega)).trans hk
    refine wpIn_mono (hbody _ pre x _ (hIp _ _ _ _ (by omega) ⟨_, hl, rfl⟩ hi) hlt) ?_
    -- the record behind the round, whatever the jump
    have after : ∀ (jump : Option Code) (W3 : World), KeepsOthers (W.putObj (D + 1) (R .busy none)) W3 →
        (Instr.endRound (D + 1) jump).run P W3 = .ok (.bool jump.isNone) (W3.putObj (D + 1) (R (if jump.isNone then .ready else .done) jump)) ∧
        (W3.putObj (D + 1) (R (if jump.isNone then .ready else .done) jump)).heap[D + 1]? = some (R (if jump.isNone then .ready else .done) jump) ∧
        (W3.putObj (D + 1) (R (if jump.isNone then .ready else .done) jump)).heap[D]? = some (.deferred (some [])) := fun jump W3 hk3 =>
      ⟨run_endRound jump (hk3.same _ _ hl2 rfl), World.putObj_heap_same (Array.getElem?_eq_some_iff.1 (hk3.same _ _ hl2 rfl)).1, (World.putObj_heap_other (by omega)).trans (hk3.same _ _ hk2 rfl)⟩
    rintro e a3 W3 hp
    have stops : ∀ c, KeepsOthers (W.putObj (D + 1) (R .busy none)) W3 → Ix c (pre ++ [x]) W3 → ∃ v w', (Instr.endRound (D + 1) (some c)).run P W3 = .ok v w' ∧ ((Ending.returned v = .returned (.bool true) ∧ J (pre ++ [x]) w') ∨ (Ending.returned v = .returned (.bool false) ∧ Jx (pre ++ [x]) w')) := by
      intro c hk3 hx
      obtain ⟨e1, e2, e3⟩ := after (some c) W3 hk3
      exact ⟨_, _, e1, .inr ⟨rfl, c, hIxp _ _ _ _ _ (by omega) ⟨_, hk3.same _ _ hl2 rfl, rfl⟩ hx, e2, e3⟩⟩
    cases e with
    | normal =>
      obtain ⟨hk3, hi3⟩ := hp
      obtain ⟨e1, e2, e3⟩ := after none W3 hk3
      exact ⟨_, _, e1, .inl ⟨rfl, hIp _ _ _ _ (by omega) ⟨_, hk3.same _ _ hl2 rfl, rfl⟩ hi3, e2, e3⟩⟩
    | ret => exact stops _ hp.1 hp.2
    | exit id => exact stops _ hp.1 hp.2
    | goto t => exact stops _ hp.1 hp.2
    | panic ch => exact hp.elim
    | outgrown => exact hp.elim
  · -- behind the iterator
    rintro e W2 ⟨⟨v, rfl⟩, (⟨xs, hS, hi, hl, hk⟩ | ⟨pre, hSp, c, hi, hl, hk⟩)⟩
    · exact ⟨none, _, run_endLoop hl (by simp), hdone _ xs _ (Nat.le_refl _) hS (hIp _ _ _ _ (by omega) ⟨_, hl, rfl⟩ hi) ((World.putObj_heap_other (by omega)).trans hk)⟩
    · exact ⟨some c, _, run_endLoop hl (by simp), hstop _ c pre _ (Nat.le_refl _) hSp (hIxp _ _ _ _ _ (by omega) ⟨_, hl, rfl⟩ hi) ((World.putObj_heap_other (by omega)).trans hk)⟩
end Go.Proofs.YtfeciafdioepiaaGreatDoor
set_option linter.unusedVariables false
set_option linter.unusedSimpArgs false
namespace Go.Proofs.YtfeciafdioepiaaGreatDoor
open Go.RowKit Go.Proofs Go.Proofs.YtfeciafdioepiaaGreatDoorW.PrintWords Go.Proofs.YtfeciafdioepiaaGreatDoor.PA

theorem copyCheck3 (B b : Nat) (bs : List Value) (w : World) (h : Lib.IsBuilder 85 5 B b bs w) :
    Calls Tryz.prog 74 #[.pointer (some ⟨b, 0, none⟩)] w fun e w' => e = .returned (.tuple #[]) ∧ (Lib.BuilderAt 85 5 B b (.pointer (some ⟨b, 0, none⟩)) bs w' ∧ Below B w w' ∧ Sib w w' ∧ KeepsOthers w w') := by
  rcases h with h | h
  · refine (copyCheck_fresh b w h.cell0 h.shape h.frozen0).mono ?_
    rintro e w' ⟨rfl, rfl⟩
    obtain ⟨hB, v, hb, _⟩ := id h
    exact ⟨rfl, h.used _, (Below.refl B w).setCell (p := ⟨b, 0, none⟩) h.1 _, Sib.set_ hb 0 _, KeepsOthers.setCell _ _ _⟩
  · refine (copyCheck_used b w h.cell0).mono ?_
    rintro e w' ⟨rfl, rfl⟩
    exact ⟨rfl, h, Below.refl B _, Sib.refl _, KeepsOthers.refl _⟩

set_option maxHeartbeats 2000000 in
set_option maxRecDepth 100000 in
theorem writeString3 (B b : Nat) (bs : List Value) (s : ByteArray) (w : World) (h : Lib.IsBuilder 85 5 B b bs w) (hlen : bs.length + s.size ≤ 140737488355328) (hBw : B ≤ w.heap.size) :
    Calls Tryz.prog 47 #[.pointer (some ⟨b, 0, none⟩), .string s] w fun e w' => e = .returned (.tuple #[.int .i64 s.size, .nilIface]) ∧ (Lib.BuilderAt 85 5 B b (.pointer (some ⟨b, 0, none⟩)) (bs ++ Lib.strCells s) w' ∧ Below B w w' ∧ Sib w w' ∧ KeepsOthers w w') := by
  obtain ⟨i0, hi, hz0, hz1, hz2⟩ := info_parts infoByte
  go_enter Tryz.func47, Tryz.ntmps47
  go_wp2_with (go_at_call 74; refine (copyCheck3 B b bs _ h).mono ?_)
  rintro e w1 ⟨rfl, h1, hb1, hs1, hko1⟩
  obtain ⟨hB, v, hbk, hown, hne⟩ := h1
  have c0 : w1.cell? ⟨b, 0, none⟩ = some (.pointer (some ⟨b, 0, none⟩)) := by rw [Lib.cell_of_heap hbk]; rfl
  have c1 : w1.cell? ⟨b, 1, none⟩ = some v := by rw [Lib.cell_of_heap hbk]; rfl
  go_wp2_with (at_builtin; refine Lib.wpList_append_own_string _ rfl _ _ 44 9 rfl B 5 i0 Tryz.underlying44 Tryz.underlying9 hi hz0 hz1 hz2 _ _ _ rfl hown s rfl ?c3 ?c4 ?c5 ?_)
  case c3 => unfold maxLen; omega
  case c4 => omega
  case c5 => have := hb1.size; omega
  intro v' w2 hown' hgrow _
  have hlt : b < w1.heap.size := by
    rcases Nat.lt_or_ge b w1.heap.size with h' | h'
    · exact h'
    · simp [Array.getElem?_eq_none h'] at hbk
  have hb2 : w2.heap[b]? = some (.cells #[.pointer (some ⟨b, 0, none⟩), v] 85 (0, 0)) := by
    rw [hgrow.block b hlt (fun e => hne e.symm)]
    exact hbk
  have d0 : w2.cell? ⟨b, 0, none⟩ = some (.pointer (some ⟨b, 0, none⟩)) := by rw [Lib.cell_of_heap hb2]; rfl
  have d1 : w2.cell? ⟨b, 1, none⟩ = some v := by rw [Lib.cell_of_heap hb2]; rfl
  have f1 : w2.frozen? ⟨b, 1, none⟩ = false := Lib.frozen_of_heap hb2 1
  have hs2 : Sib w1 w2 := fun k cs T hk h1 h2 => by
    refine hgrow.block k ?_ ?_
    · rcases Nat.lt_or_ge k w1.heap.size with h' | h'
      · exact h'
      · simp [Array.getElem?_eq_none h'] at hk
    · exact fun e => Lib.ownBlock_ne hown hk h2 e.symm
  have hko2 : KeepsOthers w1 w2 := KeepsOthers.of_grownBy hgrow (fun j o hj ho => by
    rcases hown.2 with ⟨rfl, _⟩ | ⟨g, cap, cur, rfl, _, hg, _⟩
    · simp [Value.ownBlock] at hj
    · simp only [Value.ownBlock, Option.some.injEq] at hj
      subst hj
      rw [hg] at ho
      cases ho; rfl)
  obtain ⟨ao, n', cap, rfl⟩ : ∃ ao n' cap, v' = .slice ao n' cap := by
    rcases hown'.2 with ⟨hv, _⟩ | ⟨g, cap, cur, hv, _⟩
    · exact ⟨_, _, _, hv⟩
    · exact ⟨_, _, _, hv⟩
  go_wp2
  go_ret2
  refine ⟨rfl, ?_, ?_, (hs1.trans hs2).trans (Sib.set_ hb2 1 _), (hko1.trans hko2).trans (KeepsOthers.setCell _ _ _)⟩
  · exact Lib.BuilderAt.put (T := 85) (e := 5) hB hb2 (bs' := bs ++ Lib.strCells s) (by simpa [Lib.strCells_length] using hown') (by decide)
  · exact (hb1.grown hgrow (by have := hb1.size; omega) (fun k hk => (hown.lt k hk).1)).setCell (p := ⟨b, 1, none⟩) hB _

/-- A builder stays where the blocks of its types stay. -/
theorem IsBuilder_keep {w w1 : World} {B b : Nat} {bs : List Value} (h : Lib.IsBuilder 85 5 B b bs w) (hk : ∀ (k : Nat) (cs : Array Value) (T : TypeId), w.heap[k]? = some (.cells cs T (0, 0)) → (T = 85 ∨ T = 5) → w1.heap[k]? = some (.cells cs T (0, 0))) : Lib.IsBuilder 85 5 B b bs w1 := by
  have key : ∀ p, Lib.BuilderAt 85 5 B b p bs w → Lib.BuilderAt 85 5 B b p bs w1 := by
    intro p h
    obtain ⟨hB, v, hv, hown, hne⟩ := h
    refine ⟨hB, v, hk _ _ _ hv (.inl rfl), ?_, hne⟩
    refine ⟨hown.1, ?_⟩
    rcases hown.2 with hn | ⟨g, cap, cur, rfl, hbg, hgg, rest⟩
    · exact .inl hn
    · exact .inr ⟨g, cap, cur, rfl, hbg, hk _ _ _ hgg (.inr rfl), rest⟩
  exact h.elim (fun x => .inl (key _ x)) (fun x => .inr (key _ x))
theorem IsBuilder_line {W W' : World} {B b c : Nat} {bs : List Value} {v : Value} (h : Lib.IsBuilder 85 5 B b bs W) (hm : LineMv c W W') (hc : W.heap[c]? = some (.cells #[v] 9 (0, 0))) : Lib.IsBuilder 85 5 B b bs W' :=
  IsBuilder_keep h fun k cs T hk hT => hm.blk hk (by
    rintro rfl
    rw [hk] at hc
    simp only [Option.some.injEq, Obj.cells.injEq] at hc
    obtain ⟨_, h2, _⟩ := hc
    rcases hT with h3 | h3 <;> rw [h3] at h2 <;> exact absurd h2 (by decide))
theorem IsBuilder_putObj {W : World} {B b l : Nat} {bs : List Value} {o o0 : Obj} (h : Lib.IsBuilder 85 5 B b bs W) (ho : W.heap[l]? = some o0) (hc : o0.isCells = false) : Lib.IsBuilder 85 5 B b bs (W.putObj l o) :=
  IsBuilder_keep h fun k cs T hk hT => blk_putObj hk (by
    rintro rfl
    rw [hk] at ho
    cases ho
    exact absurd hc (by simp [Obj.isCells]))
theorem builderString (B b : Nat) (l : List UInt8) (w : World) (h : Lib.IsBuilder 85 5 B b (Lib.byteCells l) w) (hBw : B ≤ w.heap.size) :
    Calls Tryz.prog 50 #[.pointer (some ⟨b, 0, none⟩)] w fun e w' => e = .returned (.string (mkS l)) ∧ Below B w w' ∧ Lib.OthersKept 5 (some b) w w' :=
  (Any.Builder_String_any_k Tryz.lays169 Tryz.Builder_Extra_169 B b l w (Lib.IsBuilderF.of h) hBw).mono fun e w' hx => ⟨hx.1, hx.2.2⟩
theorem others_deferred {w w' : World} {b D : Nat} {o : Obj} (h : Lib.OthersKept 5 (some b) w w') (hD : w.heap[D]? = some o) (hb : D ≠ b) (ho : ∀ c fz, o ≠ .cells c 5 fz) : w'.heap[D]? = some o :=
  h D o hD (fun e => hb (Option.some.inj e)) ho
end Go.Proofs.YtfeciafdioepiaaGreatDoor
set_option linter.unusedVariables false
set_option linter.unusedSimpArgs false
namespace Go.Proofs.YtfeciafdioepiaaGreatDoor
open Go.RowKit Go.Shelf Go.Proofs Go.Proofs.YtfeciafdioepiaaGreatDoorW.PrintWords Go.Proofs.YtfeciafdioepiaaGreatDoorW.PrintMore Go.Proofs.YtfeciafdioepiaaGreatDoor.PA
attribute [local go_sem] Oper.semAt_some

/-- The bytes of lines with their ends. -/
def costL (xs : List (Nat × List UInt8)) : Nat := (xs.map fun x => x.2.length + 1).sum
theorem costL_append (a b : List (Nat × List UInt8)) : costL (a ++ b) = costL a + costL b := by simp [costL]
theorem costL_lines (f : Nat) : ∀ (i : Nat) (l : List UInt8), costL (linesG f i l) ≤ l.length + 1 := by
  induction f with
  | zero => intro i l; simp [linesG, costL]
  | succ f ih =>
    intro i l
    by_cases h : l = []
    · subst h; rw [linesG_nil]; simp [costL]
    · rw [linesG_cons h]
      have hp : 0 < l.length := List.length_pos_iff.2 h
      have h1 := ih (i + 1) (l.drop (lineN l + 1))
      have hle := lineN_le l
      have hc : costL ((i, l.take (lineN l)) :: linesG f (i + 1) (l.drop (lineN l + 1))) = ((l.take (lineN l)).length + 1) + costL (linesG f (i + 1) (l.drop (lineN l + 1))) := by simp [costL]
      rw [hc, List.length_take]
      rw [List.length_drop] at h1
      by_cases h2 : l.length ≤ lineN l + 1
      · have h3 : l.drop (lineN l + 1) = [] := List.drop_eq_nil_of_le h2
        rw [h3, linesG_nil]
        simp [costL]; omega
      · omega
theorem costL_pre {pre : List (Nat × List UInt8)} {s : ByteArray} (h : pre <+: linesU s.data.toList) : costL pre ≤ s.size + 1 := by
  obtain ⟨r, hr⟩ := h
  have h1 := costL_lines s.data.toList.length 0 s.data.toList
  have h2 : s.data.toList.length = s.size := by simp
  have h3 : costL (pre ++ r) ≤ s.data.toList.length + 1 := by rw [hr]; exact h1
  rw [costL_append] at h3
  omega
end Go.Proofs.YtfeciafdioepiaaGreatDoor
set_option linter.unusedVariables false
set_option linter.unusedSimpArgs false
namespace Go.Proofs.YtfeciafdioepiaaGreatDoor
open Go.RowKit Go.Shelf Go.Proofs Go.Proofs.YtfeciafdioepiaaGreatDoorW.PrintWords Go.Proofs.YtfeciafdioepiaaGreatDoorW.PrintMore Go.Proofs.YtfeciafdioepiaaGreatDoor.PA
attribute [local go_sem] Oper.semAt_some

/-- A quoted line. -/
def quoteL (l : List UInt8) : List UInt8 := if l = [] ∨ 0 < markN l then 62 :: l else 62 :: 32 :: l
theorem quoteL_len (l : List UInt8) : (quoteL l).length ≤ l.length + 2 := by unfold quoteL; split <;> simp
set_option maxHeartbeats 1000000 in
set_option maxRecDepth 100000 in
theorem quoted_any (l : List UInt8) (w : World) (hl : l.length ≤ 1000000) : Calls Tryz.prog 46 #[.string (mkS l)] w fun e w' => e = .returned (.string (mkS (quoteL l))) ∧ Drawn0 w w' := by
  have hsz : (mkS l).size = l.length := mkS_size l
  have HL := Lib.hid (fun w => level_any (mkS l) w (by omega))
  have hq1 : (9223372036854775807 < 1 + (mkS l).size) = False := eq_false (by omega)
  have hq2 : (9223372036854775807 < 2 + (mkS l).size) = False := eq_false (by omega)
  have hc1 : (⟨#[62]⟩ : ByteArray) ++ mkS l = mkS (62 :: l) := mkS_append [62] l
  have hc2 : (⟨#[62, 32]⟩ : ByteArray) ++ mkS l = mkS (62 :: 32 :: l) := mkS_append [62, 32] l
  have htl : (mkS l).toList = l := toList_mk l
  by_cases h1 : l = []
  · have hq : quoteL l = 62 :: l := by unfold quoteL; rw [if_pos (.inl h1)]
    rw [hq, ← hc1]
    have c3b0 : ((mkS l).toList == ([] : List UInt8)) = true := by rw [htl]; exact beq_iff_eq.mpr h1
    generalize mkS l = a0 at *
    clear hc1 hc2 hq h1 htl
    go_enter Tryz.func46, Tryz.ntmps46
    go_wp2_with (go_at_call 24; refine (HL.out _).mono ?_; rintro e w' ⟨rfl, hd⟩; obtain ⟨nq, rfl⟩ := hd.1)
    go_ret
    exact ⟨rfl, drawn_of_drewN _ _⟩
  · have c3b0 : ((mkS l).toList == ([] : List UInt8)) = false := by rw [htl]; exact beq_eq_false_iff_ne.mpr h1
    by_cases h2 : 0 < markN l
    · have hq : quoteL l = 62 :: l := by unfold quoteL; rw [if_pos (.inr h2)]
      rw [hq, ← hc1]
      have c5 : decide ((0 : Int) < (markN (mkS l).data.toList : Int)) = true := decide_eq_true (by rw [mkS_toList]; omega)
      have c5' : decide (0 < markN (mkS l).data.toList) = true := decide_eq_true (by rw [mkS_toList]; omega)
      generalize mkS l = a0 at *
      clear hc1 hc2 hq h1 htl h2
      go_enter Tryz.func46, Tryz.ntmps46
      go_wp2_with (go_at_call 24; refine (HL.out _).mono ?_; rintro e w' ⟨rfl, hd⟩; obtain ⟨nq, rfl⟩ := hd.1)
      go_ret
      exact ⟨rfl, drawn_of_drewN _ _⟩
    · have hq : quoteL l = 62 :: 32 :: l := by unfold quoteL; rw [if_neg (by simp [h1, h2])]
      rw [hq, ← hc2]
      have c5 : decide ((0 : Int) < (markN (mkS l).data.toList : Int)) = false := decide_eq_false (by rw [mkS_toList]; omega)
      have c5' : decide (0 < markN (mkS l).data.toList) = false := decide_eq_false (by rw [mkS_toList]; omega)
      generalize mkS l = a0 at *
      clear hc1 hc2 hq h1 htl h2
      go_enter Tryz.func46, Tryz.ntmps46
      go_wp2_with (go_at_call 24; refine (HL.out _).mono ?_; rintro e w' ⟨rfl, hd⟩; obtain ⟨nq, rfl⟩ := hd.1)
      go_ret
      exact ⟨rfl, drawn_of_drewN _ _⟩

set_option maxHeartbeats 1000000 in
set_option maxRecDepth 100000 in
/-- The closure that adds a quoted line. -/
theorem add_any (B b : Nat) (bs : List Value) (l : List UInt8) (w : World) (hl : l.length ≤ 1000000) (h : Lib.IsBuilder 85 5 B b bs w) (hlen : bs.length + l.length + 3 ≤ 140737488355328) (hBw : B ≤ w.heap.size) :
    Calls Tryz.prog 45 #[.string (mkS l), .pointer (some ⟨b, 0, none⟩)] w fun e w' => e = .returned (.bool (decide (((quoteL l).length : Int) ≤ 998))) ∧
      (Lib.IsBuilder 85 5 B b (bs ++ Lib.byteCells (quoteL l ++ [10])) w' ∧ Below B w w' ∧ Sib w w' ∧ KeepsOthers w w') := by
  have hql := quoteL_len l
  have HQ := Lib.hid (fun w => quoted_any l w hl)
  have hsz : (mkS (quoteL l)).size = (quoteL l).length := mkS_size _
  have HW := Lib.hid (fun n => writeString3 B b bs (mkS (quoteL l ++ [10])) (w.drewN n) (IsBuilder_keep h (fun _ _ _ h _ => h)) (by rw [mkS_size]; simp; omega) hBw)
  have hq1 : (9223372036854775807 < (mkS (quoteL l)).size + 1) = False := eq_false (by omega)
  have hcat : mkS (quoteL l) ++ (⟨#[10]⟩ : ByteArray) = mkS (quoteL l ++ [10]) := mkS_append _ _
  have hst : Lib.strCells (mkS (quoteL l ++ [10])) = Lib.byteCells (quoteL l ++ [10]) := by rw [str_mk, mkS_toList]
  have Hst := Lib.hid hst
  rw [← hsz]
  have Hcat := Lib.hid hcat
  clear hst hcat hql hsz
  go_enter Tryz.func45, Tryz.ntmps45
  go_wp2_with (first
    | (go_at_call 46; refine (HQ.out _).mono ?_; rintro e w' ⟨rfl, hd⟩; obtain ⟨nq, rfl⟩ := hd.1)
    | (go_at_call 47; rw [Hcat.out]; refine (HW.out _).mono ?_; rintro e w3 ⟨rfl, hb3, hbl3, hsib3, hko3⟩; have HB3 := Aside0.mk hb3; have HBL3 := Aside0.mk hbl3; have HS3 := Aside0.mk hsib3; have HK3 := Aside0.mk hko3; clear hb3 hbl3 hsib3 hko3))
  go_ret
  refine ⟨rfl, ?_, (pw_below_drewN (Below.refl B w) _).trans HBL3.out, fun k cs T hk h1 h2 => HS3.out k cs T hk h1 h2, ⟨HK3.out.size, fun k o hk ho => HK3.out.same k o hk ho⟩⟩
  rw [← Hst.out]
  exact .inr HB3.out
end Go.Proofs.YtfeciafdioepiaaGreatDoor
