/- The row of ArticleStrips over the listed tables, and its tied card. -/
import Derived.Test.YtfeciafdioepiaaGreatDoorHSt6
import Derived.Laws.EntriesVeiled
import Derived.Test.YtfeciafdioepiaaGreatDoorProg
import Derived.Below
import Derived.Deep.Draws
import Derived.Deep.AppendLies
import Derived.Maps.AppendAt
import Derived.OwnWalk
import Derived.Laws.BytesArg
import Derived.Laws.MakeOwn
import Derived.Laws.OwnMore
import Derived.Deep.OwnRows
import Derived.Tactics
import Derived.Lib.ConvBytes
import Derived.Laws.Slices
import Derived.WalkKit
import Derived.KernelRfl
import Derived.RowKit3
import Derived.Deep.LoopGhost
import Derived.Deep.QuietTactic
import Derived.BigQuiet
import Derived.WideLaws
import Derived.Deep.DeepCutAuto
import Derived.Deep.CutBlock
import Derived.Deep.RegionHeld3
import Derived.Laws.Rows
import Derived.Lib.AppendStr
import Derived.ArgAppend
import Derived.Laws.IdiomCopy
import Derived.OrdersHeld
import Derived.Laws.BitsLemmas
import Derived.RowKit
import Derived.Test.YtfeciafdioepiaaGreatDoorHSt0
import Derived.Test.YtfeciafdioepiaaGreatDoorHSt3
import Derived.Test.YtfeciafdioepiaaGreatDoorHSt5
import Derived.Test.YtfeciafdioepiaaGreatDoorHSt4
import Derived.Test.YtfeciafdioepiaaGreatDoorWWords
import Derived.Test.YtfeciafdioepiaaGreatDoorWLast
import Derived.Test.YtfeciafdioepiaaGreatDoorWTab
import Derived.Test.YtfeciafdioepiaaGreatDoorWFour
import Derived.Test.YtfeciafdioepiaaGreatDoorWQPut
import Derived.Test.YtfeciafdioepiaaGreatDoorWApart
import Derived.Test.YtfeciafdioepiaaGreatDoorWArr
import Derived.Test.YtfeciafdioepiaaGreatDoorWZeros
import Derived.Test.YtfeciafdioepiaaGreatDoorWFoot
import Derived.Test.YtfeciafdioepiaaGreatDoorWKept
import Derived.Test.YtfeciafdioepiaaGreatDoorWShare
import Derived.Test.YtfeciafdioepiaaGreatDoorWN
import Derived.Test.YtfeciafdioepiaaGreatDoorWFootNe
import Derived.Test.YtfeciafdioepiaaGreatDoorWAt
import Derived.Test.YtfeciafdioepiaaGreatDoorWEqStruct
import Derived.Test.YtfeciafdioepiaaGreatDoorWRepsOne
import Derived.Test.YtfeciafdioepiaaGreatDoorWInv
import Derived.Test.YtfeciafdioepiaaGreatDoorWInvWords
import Derived.Test.YtfeciafdioepiaaGreatDoorWGuard
import Derived.Test.YtfeciafdioepiaaGreatDoorWNEv
import Derived.Test.YtfeciafdioepiaaGreatDoorWMore
import Derived.Test.YtfeciafdioepiaaGreatDoorRows
import Derived.Test.YtfeciafdioepiaaGreatDoorCards
import Derived.Test.YtfeciafdioepiaaGreatDoorTie
import Derived.ProofKit
import Derived.OpenShut
import Derived.ShutString
import Derived.ChangeOld
import Derived.SizedLaws
import Derived.HandedShaped
set_option linter.unusedVariables false
set_option linter.unusedSimpArgs false
namespace Go.Proofs.YtfeciafdioepiaaGreatDoor
open Go.RowKit Go.Shelf Go.Proofs Go.Proofs.YtfeciafdioepiaaGreatDoorW.PrintWords Go.Proofs.YtfeciafdioepiaaGreatDoorW.PrintMore Go.Proofs.YtfeciafdioepiaaGreatDoor.PA
attribute [local go_sem] Oper.semAt_some

/-- The quoted lines, joined. -/
def quoteAll (xs : List (Nat × List UInt8)) : List UInt8 := xs.flatMap fun x => quoteL x.2 ++ [10]
theorem quoteAll_len (xs : List (Nat × List UInt8)) : (quoteAll xs).length ≤ 3 * costL xs := by
  induction xs with
  | nil => simp [quoteAll, costL]
  | cons x r ih =>
    have hc : costL (x :: r) = x.2.length + 1 + costL r := by simp [costL]
    have hq : quoteAll (x :: r) = quoteL x.2 ++ [10] ++ quoteAll r := rfl
    have := quoteL_len x.2
    rw [hq, hc]; simp; omega
def longQ (x : Nat × List UInt8) : Bool := decide (998 < (quoteL x.2).length)
def quoteR (xs : List (Nat × List UInt8)) : ByteArray × Int := if xs.any longQ = true then (⟨#[]⟩, 5) else if 65536 < (quoteAll xs).length then (⟨#[]⟩, 5) else (mkS (quoteAll xs), 0)

theorem two_results {w W : World} {D : Nat} {t : ByteArray} {c : Int} (n : Nat) (h0 : W.heap[n]? = some (.cells #[.string ⟨#[]⟩] 9 (0, 0))) (h1 : W.heap[n + 1]? = some (.cells #[.int .i64 0] 26 (0, 0))) (hD : n + 1 < D) :
    (((W.setCell ⟨n, 0, none⟩ (.string t)).setCell ⟨n + 1, 0, none⟩ (.int .i64 c)).putObj D (.deferred none)).cell? ⟨n, 0, none⟩ = some (.string t) ∧
    (((W.setCell ⟨n, 0, none⟩ (.string t)).setCell ⟨n + 1, 0, none⟩ (.int .i64 c)).putObj D (.deferred none)).cell? ⟨n + 1, 0, none⟩ = some (.int .i64 c) := by
  have a0 := blk_far (blk_put h0 0 (.string t) rfl) (p := ⟨n + 1, 0, none⟩) (by simp) (.int .i64 c)
  have a1 := blk_put (blk_far h1 (p := ⟨n, 0, none⟩) (by simp) (.string t)) 0 (.int .i64 c) rfl
  exact ⟨(blk_cell (blk_putObj a0 (by omega)) 0).trans rfl, (blk_cell (blk_putObj a1 (by omega)) 0).trans rfl⟩

set_option maxHeartbeats 1000000 in
set_option maxRecDepth 100000 in
theorem quote_main (s : ByteArray) (w : World) (hs : s.size ≤ 1000000) (k : Nat) (a : Int) (hcb : PC.article_CheckBody.f k s = some (a, 0)) :
    Calls Tryz.prog 21 #[.string s] w fun e w' => e = .returned (.tuple #[.string (quoteR (linesU s.data.toList)).1, .int .i64 (quoteR (linesU s.data.toList)).2]) ∧ Below w.heap.size w w' := by
  have HC := Lib.hid (fun w => PC.article_CheckBody.calls k s a 0 w hcb)
  clear hcb
  have hr0 := blk_alloc (heap_alloc_last w (.cells #[.string ⟨#[]⟩] 9)) (.cells #[.int .i64 0] 26)
  have hr1 : ((w.alloc (.cells #[.string ⟨#[]⟩] 9)).alloc (.cells #[.int .i64 0] 26)).heap[w.heap.size + 1]? = some (.cells #[.int .i64 0] 26 (0, 0)) := by
    have := heap_alloc_last (w.alloc (.cells #[.string ⟨#[]⟩] 9)) (.cells #[.int .i64 0] 26)
    rwa [World.size_alloc] at this
  obtain ⟨R, hR⟩ : ∃ R, quoteR (linesU s.data.toList) = R := ⟨_, rfl⟩
  rw [hR]
  have HRR := Lib.hid hR
  clear hR
  have HR0 := Aside0.mk hr0
  have HR1 := Aside0.mk hr1
  clear hr0 hr1
  refine (callsIn_wide (n := 3)).1 ?_
  refine callsIn_of_wp_marks Tryz.func21 rfl trivial ?_ rfl
  simp only [Tryz.ntmps21, List.size_toArray, List.length_cons, List.length_nil, Nat.reduceAdd, Nat.reduceSub, Array.replicate_succ, Array.replicate_zero, List.push_toArray, List.append_toArray, List.nil_append, List.cons_append]
  gi_wp2_with (first
    | (refine ⟨trivial, ?_⟩; gi_at_call 17; refine (callsIn_wide.2 (HC.out _)).mono ?_; rintro e w1 ⟨rfl, hb1⟩; have hc0 := blk_below HR0.out hb1; have hc1 := blk_below HR1.out hb1; have hlt1 := blk_lt hc1; have HC0 := Aside0.mk hc0; have HC1 := Aside0.mk hc1; have HB1 := Aside0.mk ((((Below.refl _ w).alloc (Nat.le_refl _) (.cells #[.string ⟨#[]⟩] 9)).alloc (by simp) (.cells #[.int .i64 0] 26)).trans (hb1.mono (by simp; omega))); clear hb1 hc1 hc0)
    | (refine ⟨trivial, ?_⟩; gi_at_call 48; refine (callsIn_wide.2 (lines_any s _)).mono ?_; rintro e w' ⟨rfl, rfl⟩))
  have hb0 : Lib.IsBuilder 85 5 w.heap.size w1.heap.size (Lib.byteCells []) (w1.alloc (.cells #[.pointer none, .slice none 0 0] 85)) := fresh_builder (by omega) (heap_alloc_last w1 _)
  have hb : Lib.IsBuilder 85 5 w.heap.size w1.heap.size (Lib.byteCells []) (((w1.alloc (.cells #[.pointer none, .slice none 0 0] 85)).alloc (.cells #[.func (.func 45) #[] #[.pointer (some ⟨w1.heap.size, 0, none⟩)]] 38)).alloc (.cells #[.string s] 9)) := IsBuilder_below (IsBuilder_below hb0 ((Below.refl _ _).alloc (Nat.le_refl _) _)) ((Below.refl _ _).alloc (Nat.le_refl _) _)
  have hf : (((w1.alloc (.cells #[.pointer none, .slice none 0 0] 85)).alloc (.cells #[.func (.func 45) #[] #[.pointer (some ⟨w1.heap.size, 0, none⟩)]] 38)).alloc (.cells #[.string s] 9)).heap[w1.heap.size + 1]? = some (.cells #[.func (.func 45) #[] #[.pointer (some ⟨w1.heap.size, 0, none⟩)]] 38 (0, 0)) := by
    have := heap_alloc_last (w1.alloc (.cells #[.pointer none, .slice none 0 0] 85)) (.cells #[.func (.func 45) #[] #[.pointer (some ⟨w1.heap.size, 0, none⟩)]] 38)
    rw [World.size_alloc] at this
    exact blk_alloc this _
  have hl : (((w1.alloc (.cells #[.pointer none, .slice none 0 0] 85)).alloc (.cells #[.func (.func 45) #[] #[.pointer (some ⟨w1.heap.size, 0, none⟩)]] 38)).alloc (.cells #[.string s] 9)).heap[w1.heap.size + 1 + 1]? = some (.cells #[.string s] 9 (0, 0)) := by
    have := heap_alloc_last ((w1.alloc (.cells #[.pointer none, .slice none 0 0] 85)).alloc (.cells #[.func (.func 45) #[] #[.pointer (some ⟨w1.heap.size, 0, none⟩)]] 38)) (.cells #[.string s] 9)
    rwa [World.size_alloc, World.size_alloc] at this
  have hc0 := blk_alloc (blk_alloc2 (o1 := .cells #[.pointer none, .slice none 0 0] 85) (o2 := (.cells #[.func (.func 45) #[] #[.pointer (some ⟨w1.heap.size, 0, none⟩)]] 38)) HC0.out) (.cells #[.string s] 9)
  have hc1 := blk_alloc (blk_alloc2 (o1 := .cells #[.pointer none, .slice none 0 0] 85) (o2 := (.cells #[.func (.func 45) #[] #[.pointer (some ⟨w1.heap.size, 0, none⟩)]] 38)) HC1.out) (.cells #[.string s] 9)
  have hB0 : Below w.heap.size w (((w1.alloc (.cells #[.pointer none, .slice none 0 0] 85)).alloc (.cells #[.func (.func 45) #[] #[.pointer (some ⟨w1.heap.size, 0, none⟩)]] 38)).alloc (.cells #[.string s] 9)) := ((HB1.out.alloc HB1.out.size _).alloc (by simp; omega) _).alloc (by simp; omega) _
  obtain ⟨W0, hW0⟩ : ∃ W0, ((w1.alloc (.cells #[.pointer none, .slice none 0 0] 85)).alloc (.cells #[.func (.func 45) #[] #[.pointer (some ⟨w1.heap.size, 0, none⟩)]] 38)).alloc (.cells #[.string s] 9) = W0 := ⟨_, rfl⟩
  have hsz : W0.heap.size = w1.heap.size + 3 := by rw [← hW0]; simp
  try simp only [World.size_alloc]
  rw [hW0] at hc0 hc1 hb hl hf hB0 ⊢
  have Hsz := Lib.hid hsz
  clear hW0 hsz hb0
  refine range_law2 (gf := 75) (lb := #[.pointer (some ⟨w1.heap.size + 1 + 1, 0, none⟩)]) rfl (enters_of Tryz.func75 (by kernel_rfl) rfl) (lines_iter s (w1.heap.size + 1 + 1) (by omega)) (fun _ _ h => h.others) (fun _ => rfl)
    (fun pre W => (Lib.IsBuilder 85 5 w.heap.size w1.heap.size (Lib.byteCells (quoteAll pre)) W ∧ W.heap[w.heap.size]? = some (.cells #[.string ⟨#[]⟩] 9 (0, 0)) ∧ W.heap[w.heap.size + 1]? = some (.cells #[.int .i64 0] 26 (0, 0)) ∧
      W.heap[w1.heap.size + 1]? = some (.cells #[.func (.func 45) #[] #[.pointer (some ⟨w1.heap.size, 0, none⟩)]] 38 (0, 0)) ∧ pre <+: linesU s.data.toList ∧ pre.any longQ = false) ∧ (∃ v, W.heap[w1.heap.size + 1 + 1]? = some (.cells #[v] 9 (0, 0))) ∧ Below w.heap.size w W)
    (fun c pre W => c = .ret ∧ pre.any longQ = true ∧ W.heap[w.heap.size]? = some (.cells #[.string ⟨#[]⟩] 9 (0, 0)) ∧ W.heap[w.heap.size + 1]? = some (.cells #[.int .i64 5] 26 (0, 0)) ∧ Below w.heap.size w W)
    (fun pre W W' h hm => by
      obtain ⟨v, hv⟩ := h.2.1
      exact ⟨⟨IsBuilder_line h.1.1 hm hv, hm.blk h.1.2.1 (by omega), hm.blk h.1.2.2.1 (by omega), hm.blk h.1.2.2.2.1 (by omega), h.1.2.2.2.2⟩, hm.own h.2.1, hm.below (by omega) h.2.2⟩) (fun pre W h => h.2.1)
    (fun pre W l o hl ho h => by
      obtain ⟨o0, ho0, hoc⟩ := ho
      have := Hsz.out
      obtain ⟨v, hv⟩ := h.2.1
      exact ⟨⟨IsBuilder_putObj h.1.1 ho0 hoc, blk_putObj h.1.2.1 (by omega), blk_putObj h.1.2.2.1 (by omega), blk_putObj h.1.2.2.2.1 (by omega), h.1.2.2.2.2⟩, ⟨v, blk_putObj hv (by omega)⟩, below_putObj h.2.2 (Nat.le_refl _) (by omega) _⟩)
    (fun c pre W l o hl ho h => by
      have := Hsz.out
      exact ⟨h.1, h.2.1, blk_putObj h.2.2.1 (by omega), blk_putObj h.2.2.2.1 (by omega), below_putObj h.2.2.2.2 (Nat.le_refl _) (by omega) _⟩)
    (fun o o' => ⟨⟨IsBuilder_below (IsBuilder_below hb ((Below.refl _ _).alloc (Nat.le_refl _) _)) ((Below.refl _ _).alloc (Nat.le_refl _) _), blk_alloc2 hc0, blk_alloc2 hc1, blk_alloc2 hf, List.nil_prefix, rfl⟩, ⟨_, blk_alloc2 hl⟩, (hB0.alloc (by have := Hsz.out; omega) _).alloc (by have := Hsz.out; simp; omega) _⟩)
    (fun o o' => blk_alloc2 hl)
    (fun x => { tmps := #[.string s, undef, .pointer (some ⟨w.heap.size, 0, none⟩), .pointer (some ⟨w.heap.size + 1, 0, none⟩), .int .i64 a, .int .i64 0, .pointer (some ⟨w1.heap.size, 0, none⟩), .pointer (some ⟨w1.heap.size + 1, 0, none⟩), undef, .string (mkS x.2), .tuple #[.int .i64 a, .int .i64 0], .string s, .tuple #[.int .i64 a, .int .i64 0], .int .i64 a, .int .i64 0, .int .i64 0, .bool false, undef, .func (.func 45) #[] #[.pointer (some ⟨w1.heap.size, 0, none⟩)], .string s, .func (.func 75) #[] #[.pointer (some ⟨w1.heap.size + 1 + 1, 0, none⟩)], .int .i64 x.1, .string (mkS x.2), undef, undef, undef, undef, undef, undef, undef], defers := [] }) ?assign ?body ?done ?stop
  case assign =>
    intro l x W K hK
    gi_wp2
    simpa using hK
  case body =>
    rintro l pre x W ⟨⟨hbd, hcn0, hcn1, hfn, hp, hany⟩, hbx, hB⟩ hlt
    have hcost := costL_pre hlt
    have hslen := quoteAll_len pre
    rw [costL_append] at hcost
    have hx1 : costL [x] = x.2.length + 1 := by simp [costL]
    have hql := quoteL_len x.2
    have hstr : quoteAll (pre ++ [x]) = quoteAll pre ++ (quoteL x.2 ++ [10]) := by simp [quoteAll]
    have hanyx : (pre ++ [x]).any longQ = longQ x := by rw [List.any_append, hany]; simp
    have hltc := blk_lt hcn0
    have HA := Lib.hid (add_any w.heap.size w1.heap.size (Lib.byteCells (quoteAll pre)) x.2 W (by omega) hbd (by simp [Lib.byteCells]; omega) (Nat.le_of_lt hltc))
    have Hstr := Lib.hid hstr
    have hcellf : W.cell? ⟨w1.heap.size + 1, 0, none⟩ = some (.func (.func 45) #[] #[.pointer (some ⟨w1.heap.size, 0, none⟩)]) := (blk_cell hfn 0).trans rfl
    have HCN0 := Aside0.mk hcn0
    have HCN1 := Aside0.mk hcn1
    have HFN := Aside0.mk hfn
    have HBX := Aside0.mk hbx
    have HB := Aside0.mk hB
    clear hstr hbd hbx hB hcost hslen hx1 hany hcn0 hcn1 hfn
    by_cases h9 : ((quoteL x.2).length : Int) ≤ 998
    · have hlq : longQ x = false := by unfold longQ; exact decide_eq_false (by omega)
      have hdec : decide (((quoteL x.2).length : Int) ≤ 998) = true := decide_eq_true h9
      rw [hdec] at HA
      rw [hlq] at hanyx
      have Hany := Lib.hid hanyx
      clear hanyx hlq hdec h9 hql
      gi_wp2_with (refine ⟨trivial, ?_⟩; gi_at_call 45; refine (CallsIn.inRound l (callsIn_wide.2 HA.out)).mono ?_; rintro e w3 ⟨rfl, hb3, hbl3, hsib3, hko3⟩; have HB3 := Aside0.mk hb3; have HBL3 := Aside0.mk hbl3; have HS3 := Aside0.mk hsib3; have HK3 := Aside0.mk hko3; clear hb3 hbl3 hsib3 hko3)
      refine ⟨HK3.out, ⟨⟨?_, (HS3.out _ _ 9 HCN0.out (by decide) (by decide)).trans HCN0.out, (HS3.out _ _ 26 HCN1.out (by decide) (by decide)).trans HCN1.out, (HS3.out _ _ 38 HFN.out (by decide) (by decide)).trans HFN.out, hlt, Hany.out⟩, ?_, HB.out.trans HBL3.out⟩⟩
      · rw [Hstr.out]
        have h1 : Lib.byteCells (quoteAll pre ++ (quoteL x.2 ++ [10])) = Lib.byteCells (quoteAll pre) ++ Lib.byteCells (quoteL x.2 ++ [10]) := by simp [Lib.byteCells]
        rw [h1]
        exact HB3.out
      · obtain ⟨v, hv⟩ := HBX.out
        exact ⟨v, (HS3.out _ _ 9 hv (by decide) (by decide)).trans hv⟩
    · have hlq : longQ x = true := by unfold longQ; exact decide_eq_true (by omega)
      have hdec : decide (((quoteL x.2).length : Int) ≤ 998) = false := decide_eq_false h9
      rw [hdec] at HA
      rw [hlq] at hanyx
      have Hany := Lib.hid hanyx
      clear hanyx hlq hdec h9 hql
      gi_wp2_with (refine ⟨trivial, ?_⟩; gi_at_call 45; refine (CallsIn.inRound l (callsIn_wide.2 HA.out)).mono ?_; rintro e w3 ⟨rfl, hb3, hbl3, hsib3, hko3⟩; have hcm0 := (hsib3 _ _ 9 HCN0.out (by decide) (by decide)).trans HCN0.out; have hcm1 := (hsib3 _ _ 26 HCN1.out (by decide) (by decide)).trans HCN1.out; have hce0 : w3.cell? ⟨w.heap.size, 0, none⟩ = some (.string ⟨#[]⟩) := (blk_cell hcm0 0).trans rfl; have hce1 : w3.cell? ⟨w.heap.size + 1, 0, none⟩ = some (.int .i64 0) := (blk_cell hcm1 0).trans rfl; have hfz0 := blk_frozen hcm0 0; have hfz1 := blk_frozen hcm1 0; have HCM0 := Aside0.mk hcm0; have HCM1 := Aside0.mk hcm1; have HBL3 := Aside0.mk hbl3; have HK3 := Aside0.mk hko3; clear hb3 hbl3 hsib3 hko3 hcm0 hcm1)
      refine ⟨(HK3.out.trans (KeepsOthers.setCell _ _ _)).trans (KeepsOthers.setCell _ _ _), rfl, Hany.out, blk_far (blk_put HCM0.out 0 _ rfl) (p := ⟨w.heap.size + 1, 0, none⟩) (by simp) _, blk_put (blk_far HCM1.out (p := ⟨w.heap.size, 0, none⟩) (by simp) _) 0 _ rfl,
        ((HB.out.trans HBL3.out).setCell (p := ⟨w.heap.size, 0, none⟩) (Nat.le_refl _) _).setCell (p := ⟨w.heap.size + 1, 0, none⟩) (Nat.le_succ _) _⟩
  case done =>
    rintro D ys W hD rfl ⟨⟨hbd, hcn0, hcn1, hfn, _, hany⟩, _, hB⟩ hK
    have hw0 := Hsz.out
    have hq0 : quoteR (linesU s.data.toList) = if 65536 < (quoteAll (linesU s.data.toList)).length then (⟨#[]⟩, 5) else (mkS (quoteAll (linesU s.data.toList)), 0) := by unfold quoteR; rw [if_neg (by simp [hany])]
    have HRq := Lib.hid (HRR.out.symm.trans hq0)
    clear HRR
    generalize quoteAll (linesU s.data.toList) = L at *
    have hln := Tryz.Builder_Len _ _ _ _ hbd
    rw [Lib.byteCells_length] at hln
    have HLN := Lib.hid hln
    have hce0 : W.cell? ⟨w.heap.size, 0, none⟩ = some (.string ⟨#[]⟩) := (blk_cell hcn0 0).trans rfl
    have hce1 : W.cell? ⟨w.heap.size + 1, 0, none⟩ = some (.int .i64 0) := (blk_cell hcn1 0).trans rfl
    have hfz0 := blk_frozen hcn0 0
    have hfz1 := blk_frozen hcn1 0
    have HCN0 := Aside0.mk hcn0
    have HCN1 := Aside0.mk hcn1
    have HBD := Aside0.mk hbd
    have HB := Aside0.mk hB
    have HKK := Aside0.mk hK
    clear hln hcn0 hcn1 hbd hB hK hq0 hany hfn hc0 hc1 hb hf hl hB0
    by_cases hlong : 65536 < L.length
    · obtain rfl : R = (⟨#[]⟩, 5) := by rw [HRq.out, if_pos hlong]
      have hd : decide ((65536 : Int) < (L.length : Int)) = true := decide_eq_true (by omega)
      have hd' : decide (65536 < L.length) = true := decide_eq_true hlong
      clear hlong
      gi_wp2_with (first | (refine ⟨trivial, ?_⟩; gi_at_call 49; refine (callsIn_wide.2 HLN.out).mono ?_; rintro e w2 ⟨rfl, rfl⟩))
      obtain ⟨hc5, hc6⟩ := two_results (w := w) (D := D) (t := ⟨#[]⟩) (c := 5) w.heap.size HCN0.out HCN1.out (by omega)
      have hKe := (KeepsOthers.setCell _ ⟨w.heap.size + 1, 0, none⟩ (.int .i64 5)).same D _ ((KeepsOthers.setCell _ ⟨w.heap.size, 0, none⟩ (.string ⟨#[]⟩)).same D _ (HKK.out) rfl) rfl
      refine ⟨by simp, .inl ⟨_, _, rfl, run_takeDeferred hKe, ?_⟩⟩
      refine ⟨.tuple #[.string ⟨#[]⟩, .int .i64 5], ?_, rfl, below_putObj (((HB.out).setCell (p := ⟨w.heap.size, 0, none⟩) (Nat.le_refl _) _).setCell (p := ⟨w.heap.size + 1, 0, none⟩) (Nat.le_succ _) _) (Nat.le_refl _) (by omega) _⟩
      simp [results, Tryz.f21, go_sem, hc5, hc6]
    · obtain rfl : R = (mkS L, 0) := by rw [HRq.out, if_neg hlong]
      have hd : decide ((65536 : Int) < (L.length : Int)) = false := decide_eq_false (by omega)
      have hd' : decide (65536 < L.length) = false := decide_eq_false hlong
      clear hlong
      gi_wp2_with (first
        | (refine ⟨trivial, ?_⟩; gi_at_call 49; refine (callsIn_wide.2 HLN.out).mono ?_; rintro e w2 ⟨rfl, rfl⟩)
        | (refine ⟨trivial, ?_⟩; gi_at_call 50; refine (callsIn_wide.2 (builderString _ _ _ _ HBD.out HB.out.size)).mono ?_; rintro e w2 ⟨rfl, hb2, ho2⟩; have hcm0 := others_deferred ho2 HCN0.out (by omega) (fun _ _ e => by cases e); have hcm1 := others_deferred ho2 HCN1.out (by omega) (fun _ _ e => by cases e); have hce0 : w2.cell? ⟨w.heap.size, 0, none⟩ = some (.string ⟨#[]⟩) := (blk_cell hcm0 0).trans rfl; have hce1 : w2.cell? ⟨w.heap.size + 1, 0, none⟩ = some (.int .i64 0) := (blk_cell hcm1 0).trans rfl; have hfz0 := blk_frozen hcm0 0; have hfz1 := blk_frozen hcm1 0; have HCM0 := Aside0.mk hcm0; have HCM1 := Aside0.mk hcm1; have HB2 := Aside0.mk hb2; have HO2 := Aside0.mk ho2; clear hb2 ho2 hcm0 hcm1))
      obtain ⟨hc5, hc6⟩ := two_results (w := w) (D := D) (t := (mkS L)) (c := 0) w.heap.size HCM0.out HCM1.out (by omega)
      have hKe := (KeepsOthers.setCell _ ⟨w.heap.size + 1, 0, none⟩ (.int .i64 0)).same D _ ((KeepsOthers.setCell _ ⟨w.heap.size, 0, none⟩ (.string (mkS L))).same D _ (others_deferred HO2.out HKK.out (by omega) (fun _ _ e => by cases e)) rfl) rfl
      refine ⟨by simp, .inl ⟨_, _, rfl, run_takeDeferred hKe, ?_⟩⟩
      refine ⟨.tuple #[.string (mkS L), .int .i64 0], ?_, rfl, below_putObj (((HB.out.trans HB2.out).setCell (p := ⟨w.heap.size, 0, none⟩) (Nat.le_refl _) _).setCell (p := ⟨w.heap.size + 1, 0, none⟩) (Nat.le_succ _) _) (Nat.le_refl _) (by omega) _⟩
      simp [results, Tryz.f21, go_sem, hc5, hc6]
  case stop =>
    rintro D c pre W hD hpre ⟨rfl, hany, hcn0, hcn1, hB⟩ hK
    have hw0 := Hsz.out
    have hq : quoteR (linesU s.data.toList) = (⟨#[]⟩, 5) := by
      unfold quoteR
      obtain ⟨r, hr⟩ := hpre
      rw [if_pos (by rw [← hr, List.any_append, hany]; rfl)]
    obtain rfl : R = (⟨#[]⟩, 5) := HRR.out.symm.trans hq
    clear hq hany hc0 hc1 hb hf hl hB0
    gi_wp2
    have hc5 : (W.putObj D (.deferred none)).cell? ⟨w.heap.size, 0, none⟩ = some (.string ⟨#[]⟩) := (blk_cell (blk_putObj hcn0 (by omega)) 0).trans rfl
    have hc6 : (W.putObj D (.deferred none)).cell? ⟨w.heap.size + 1, 0, none⟩ = some (.int .i64 5) := (blk_cell (blk_putObj hcn1 (by omega)) 0).trans rfl
    refine ⟨by simp, .inl ⟨_, _, rfl, run_takeDeferred hK, ?_⟩⟩
    refine ⟨.tuple #[.string ⟨#[]⟩, .int .i64 5], ?_, rfl, below_putObj hB (Nat.le_refl _) (by omega) _⟩
    simp [results, Tryz.f21, go_sem, hc5, hc6]

def GV.Quote.f (k : Nat) (s : ByteArray) : Option (ByteArray × Int) :=
  (PC.article_CheckBody.f k s).bind fun x => if x.2 ≠ 0 then some (⟨#[]⟩, x.2) else if s.size ≤ 1000000 then some (quoteR (linesU s.data.toList)) else none
set_option maxHeartbeats 1000000 in
theorem quote_bad (s : ByteArray) (w : World) (k : Nat) (a c : Int) (hc0 : c ≠ 0) (hcb : PC.article_CheckBody.f k s = some (a, c)) :
    Calls Tryz.prog 21 #[.string s] w fun e w' => e = .returned (.tuple #[.string ⟨#[]⟩, .int .i64 c]) ∧ Below w.heap.size w w' := by
  have hcn : (c != 0) = true := bne_iff_ne.2 hc0
  have HC := Lib.hid (fun w => PC.article_CheckBody.calls k s a c w hcb)
  clear hcb hc0
  have hr0 := blk_alloc (heap_alloc_last w (.cells #[.string ⟨#[]⟩] 9)) (.cells #[.int .i64 0] 26)
  have hr1 : ((w.alloc (.cells #[.string ⟨#[]⟩] 9)).alloc (.cells #[.int .i64 0] 26)).heap[w.heap.size + 1]? = some (.cells #[.int .i64 0] 26 (0, 0)) := by
    have := heap_alloc_last (w.alloc (.cells #[.string ⟨#[]⟩] 9)) (.cells #[.int .i64 0] 26)
    rwa [World.size_alloc] at this
  have HR0 := Aside0.mk hr0
  have HR1 := Aside0.mk hr1
  clear hr0 hr1
  go_enter Tryz.func21, Tryz.ntmps21
  go_wp2_with (go_at_call 17; refine (HC.out _).mono ?_; rintro e w1 ⟨rfl, hb1⟩; have hc0 := blk_below HR0.out hb1; have hc1 := blk_below HR1.out hb1; have hce0 : w1.cell? ⟨w.heap.size, 0, none⟩ = some (.string ⟨#[]⟩) := (blk_cell hc0 0).trans rfl; have hce1 : w1.cell? ⟨w.heap.size + 1, 0, none⟩ = some (.int .i64 0) := (blk_cell hc1 0).trans rfl; have hfz0 := blk_frozen hc0 0; have hfz1 := blk_frozen hc1 0; have HC0 := Aside0.mk hc0; have HC1 := Aside0.mk hc1; have HB1 := Aside0.mk ((((Below.refl _ w).alloc (Nat.le_refl _) (.cells #[.string ⟨#[]⟩] 9)).alloc (by simp) (.cells #[.int .i64 0] 26)).trans (hb1.mono (by simp; omega))); clear hb1 hc1 hc0)
  have a0 := blk_far (blk_put HC0.out 0 (.string ⟨#[]⟩) rfl) (p := ⟨w.heap.size + 1, 0, none⟩) (by simp) (.int .i64 c)
  have a1 := blk_put (blk_far HC1.out (p := ⟨w.heap.size, 0, none⟩) (by simp) (.string ⟨#[]⟩)) 0 (.int .i64 c) rfl
  have hc5 := (blk_cell a0 0).trans rfl
  have hc6 := (blk_cell a1 0).trans rfl
  refine bodyPost_ret (v := .tuple #[.string ⟨#[]⟩, .int .i64 c]) (by simp [results, Tryz.f21, go_sem, hc5, hc6]) rfl ⟨rfl, below_set (below_set HB1.out (Nat.le_refl _)) (Nat.le_succ _)⟩
theorem GV.Quote.calls (k : Nat) (a0 : ByteArray) (r1 : ByteArray) (r2 : Int) (w : World) (h : GV.Quote.f k a0 = some (r1, r2)) :
    Calls Tryz.prog 21 #[.string a0] w fun e w' => e = .returned (.tuple #[.string r1, .int .i64 r2]) ∧ Below w.heap.size w w' := by
  unfold GV.Quote.f at h
  cases hc : PC.article_CheckBody.f k a0 with
  | none => rw [hc] at h; simp at h
  | some x =>
    obtain ⟨a, c⟩ := x
    rw [hc] at h
    simp only [Option.bind_some] at h
    by_cases h2 : c = 0
    · subst h2
      rw [if_neg (by simp)] at h
      by_cases h3 : a0.size ≤ 1000000
      · rw [if_pos h3] at h
        have h4 := Option.some.inj h
        have := quote_main a0 w h3 k a hc
        rw [h4] at this
        exact this
      · rw [if_neg h3] at h; simp at h
    · rw [if_pos h2] at h
      simp only [Option.some.injEq, Prod.mk.injEq] at h
      obtain ⟨rfl, rfl⟩ := h
      exact quote_bad a0 w k a _ h2 hc
end Go.Proofs.YtfeciafdioepiaaGreatDoor
set_option linter.unusedVariables false
set_option linter.unusedSimpArgs false
namespace Go.Proofs.YtfeciafdioepiaaGreatDoor
open Go.RowKit Go.Shelf Go.Proofs Go.Proofs.YtfeciafdioepiaaGreatDoorW.PrintWords Go.Proofs.YtfeciafdioepiaaGreatDoorW.PrintMore Go.Proofs.YtfeciafdioepiaaGreatDoor.PA
def knF : List S76 := [⟨mkS [83, 117, 98, 106, 101, 99, 116], mkS [97]⟩]
theorem kn1 : GV.AParse.f 60 ⟨#[83, 117, 98, 106, 101, 99, 116, 58, 32, 97, 10, 10, 104, 101, 108, 108, 111, 10]⟩ = some (knF, ⟨#[104, 101, 108, 108, 111, 10]⟩, 0, 0) := by kernel_rfl
theorem kn2 : PC.article_Print.f 60 knF ⟨#[104, 101, 108, 108, 111, 10]⟩ = some (⟨#[83, 117, 98, 106, 101, 99, 116, 58, 32, 97, 10, 10, 104, 101, 108, 108, 111, 10]⟩, 0) := by decide +kernel
theorem kn3 : GV.AParse.f 60 ⟨#[83, 117, 98, 106, 101, 99, 116, 58, 32, 97, 10, 10, 120]⟩ = some ([], ⟨#[]⟩, 13, 4) := by kernel_rfl
theorem kn4 : GV.Quote.f 60 ⟨#[97, 10, 62, 32, 98, 10, 10]⟩ = some (⟨#[62, 32, 97, 10, 62, 62, 32, 98, 10, 62, 10]⟩, 0) := by decide +kernel
theorem kn5 : markN [62, 62, 32, 120] = 2 ∧ restL [62, 62, 32, 120] = [120] := by decide +kernel
theorem kn6 : (linesU [97, 10, 98]).length = 2 := by decide +kernel
end Go.Proofs.YtfeciafdioepiaaGreatDoor
set_option linter.unusedVariables false
set_option linter.unusedSimpArgs false
namespace Go.Proofs.YtfeciafdioepiaaGreatDoor
open Go.RowKit Go.Shelf Go.Proofs Go.Proofs.YtfeciafdioepiaaGreatDoorW.PrintWords Go.Proofs.YtfeciafdioepiaaGreatDoorW.PrintMore Go.Proofs.YtfeciafdioepiaaGreatDoor.PA
attribute [local go_sem] Oper.semAt_some
set_option maxHeartbeats 4000000 in
set_option maxRecDepth 100000 in
theorem known_any (w : World) (hgm : Gm w) : Calls Tryz.prog 14 #[] w fun e w' => e = .returned (.bool true) ∧ Below w.heap.size w w' := by
  have hu76 := Tryz.underlying76
  have HGM := Aside0.mk hgm
  clear hgm
  go_enter Tryz.func14, Tryz.ntmps14
  go_wp2_with fail
  refine (GV.AParse.calls 60 _ _ _ _ _ _ HGM.out kn1).mono ?_
  rintro e w1 ⟨v1, rfl, hR1, hb1⟩
  obtain ⟨g, c1, rfl⟩ : ∃ g c, v1 = .slice (some ⟨g, 0, none⟩) knF.length c := by
    obtain ⟨inner, ho⟩ := Kd.R_own hR1
    rcases ho.2 with ⟨_, h0⟩ | ⟨g, c, cur, hv, _⟩
    · exact absurd h0 (by decide)
    · exact ⟨g, c, hv⟩
  have HR1 := Aside0.mk (Kd.R_alloc hR1 (.cells #[.slice (some ⟨g, 0, none⟩) knF.length c1, .string ⟨#[104, 101, 108, 108, 111, 10]⟩] 25))
  have HA1 := Aside0.mk (blk_new w1 (.cells #[.slice (some ⟨g, 0, none⟩) knF.length c1, .string ⟨#[104, 101, 108, 108, 111, 10]⟩] 25))
  have HB1 := Aside0.mk (below_alloc hb1 (.cells #[.slice (some ⟨g, 0, none⟩) knF.length c1, .string ⟨#[104, 101, 108, 108, 111, 10]⟩] 25))
  have HGM1 := Aside0.mk (gm_at (gm_at HGM.out hb1) ((Below.refl _ _).alloc (Nat.le_refl _) (.cells #[.slice (some ⟨g, 0, none⟩) knF.length c1, .string ⟨#[104, 101, 108, 108, 111, 10]⟩] 25)))
  clear hR1 hb1
  go_wp2_with fail
  refine (PC.article_Print.calls 60 (some ⟨g, 0, none⟩) c1 knF _ _ _ _ (Kd.R_reads' HR1.out).2.2 (Kd.R_reads' HR1.out).2.1 kn2).mono ?_
  rintro e w2 ⟨rfl, hb2⟩
  have HB2 := Aside0.mk (HB1.out.trans (hb2.mono HB1.out.size))
  have HR2 := Aside0.mk (Kd.R_below HR1.out hb2)
  have HA2 := Aside0.mk (blk_below HA1.out hb2)
  have HGM2 := Aside0.mk (gm_at HGM1.out hb2)
  clear hb2 HR1 HA1 HB1 HGM1
  go_wp2_with fail
  refine (GV.AParse.calls 60 _ _ _ _ _ _ HGM2.out kn3).mono ?_
  rintro e w3 ⟨v3, rfl, hR3, hb3⟩
  obtain ⟨A3, c3, e3⟩ := Kd.R_slice hR3
  subst e3
  have HB3 := Aside0.mk (HB2.out.trans (hb3.mono HB2.out.size))
  have HR3 := Aside0.mk (Kd.R_below HR2.out hb3)
  have HA3 := Aside0.mk (blk_below HA2.out hb3)
  clear hR3 hb3 HB2 HR2 HA2 HGM2
  go_wp2_with fail
  refine (GV.Quote.calls 60 _ _ _ _ kn4).mono ?_
  rintro e w4 ⟨rfl, hb4⟩
  have HB4 := Aside0.mk ((below_alloc HB3.out (.cells #[.slice A3 0 c3, .string ⟨#[]⟩] 25)).trans (hb4.mono (below_alloc HB3.out _).size))
  have HA4 := Aside0.mk (blk_below (blk_alloc HA3.out (.cells #[.slice A3 0 c3, .string ⟨#[]⟩] 25)) hb4)
  have hR4 := Kd.R_below (Kd.R_alloc HR3.out (.cells #[.slice A3 0 c3, .string ⟨#[]⟩] 25)) hb4
  obtain ⟨ad, e5, hx0, hx1⟩ := at_T76 (Kd.R_reads' hR4).2.2 0 (by decide) (by decide)
  injection e5 with e5
  subst e5
  have hx0' : w4.cell? ⟨g, 0, none⟩ = some (.string ⟨#[83, 117, 98, 106, 101, 99, 116]⟩) := hx0
  have hx1' : w4.cell? ⟨g, 1, none⟩ = some (.string ⟨#[97]⟩) := hx1
  have ha0 : w4.cell? ⟨w1.heap.size, 0, none⟩ = some (.slice (some ⟨g, 0, none⟩) 1 c1) := (blk_cell HA4.out 0).trans rfl
  have ha1 : w4.cell? ⟨w1.heap.size, 1, none⟩ = some (.string ⟨#[104, 101, 108, 108, 111, 10]⟩) := (blk_cell HA4.out 1).trans rfl
  clear hR4 hb4 HR3 HA3 HB3 hx0 hx1
  go_wp2_with fail
  refine (level_any ⟨#[62, 62, 32, 120]⟩ _ (by decide)).mono ?_
  rintro e w5 ⟨rfl, hd⟩
  obtain ⟨n5, rfl⟩ := hd.1
  have e1 : (⟨#[62, 62, 32, 120]⟩ : ByteArray).data.toList = [62, 62, 32, 120] := rfl
  rw [e1, kn5.1, kn5.2]
  have e2 : mkS [120] = ⟨#[120]⟩ := rfl
  rw [e2]
  clear e1 e2 hd
  have HCT := Lib.hid (fun w => count_any ⟨#[97, 10, 98]⟩ w (by decide))
  go_wp2_with (go_at_call 39; refine (HCT.out _).mono ?_; rintro e w6 ⟨he, hb6⟩; rw [show (linesU (⟨#[97, 10, 98]⟩ : ByteArray).data.toList).length = 2 from kn6] at he; subst he; have HB6 := Aside0.mk ((pw_below_drewN HB4.out n5).trans (hb6.mono HB4.out.size)); clear hb6)
  go_ret
  exact ⟨rfl, HB6.out⟩
theorem GV.known.calls (r : Bool) (w : World) (hgm : Gm w) (h : GV.known.f = some r) : Calls Tryz.prog 14 #[] w fun e w' => e = .returned (.bool r) ∧ Below w.heap.size w w' := by
  injection h with h
  subst h
  exact known_any w hgm
end Go.Proofs.YtfeciafdioepiaaGreatDoor
namespace Go.Proofs.YtfeciafdioepiaaGreatDoor.PL
open Go.Proofs.YtfeciafdioepiaaGreatDoor.PA
open Go.Proofs.YtfeciafdioepiaaGreatDoor
open Go.RowKit Go.Proofs.YtfeciafdioepiaaGreatDoorW.PrintWords Go.Proofs.YtfeciafdioepiaaGreatDoorW.PrintLast Go.Proofs.YtfeciafdioepiaaGreatDoorW.PrintMore
attribute [local go_sem] max2_int min2_int max_two min_two max_three min_three max_four min_four   -- for this text's walks alone
set_option linter.unusedVariables false
set_option linter.unusedSimpArgs false

/-! ### bulletinlaw15_ArticleStrips: function 8 -/
def bulletinlaw15_ArticleStrips.j0 : Nat → ByteArray → Bool → Option (Bool)
  | 0, _, _ => none
  | k + 1, x0, x38 => if x38 = true then (some false) else ((GV.Quote.f k x0).bind fun bt183 => ((GV.Strip.f k bt183.1 1).bind fun bt185 => (if bt183.2 = 0 then (if bt185.1.toList = ([] : List UInt8) then (some (bt185.2 == 0)) else (some false)) else (some true))))
def bulletinlaw15_ArticleStrips.f (k : Nat) (a0 : ByteArray) (a1 : Int) : Option (Bool) := (PA.bulletinlaw15_short.f a0 3000).bind fun t177 => ((GV.Strip.f k t177 a1).bind fun bt178 => ((PA.bulletinref15_Strip.f k t177 a1).bind fun bt180 => ((GV.known.f).bind fun t182 => (if t182 = true then (if bt178.1.toList = bt180.1.toList then (bulletinlaw15_ArticleStrips.j0 k t177 (bt178.2 != bt180.2)) else (bulletinlaw15_ArticleStrips.j0 k t177 true)) else (bulletinlaw15_ArticleStrips.j0 k t177 true)))))
set_option maxHeartbeats 8000000 in
set_option maxRecDepth 100000 in
theorem bulletinlaw15_ArticleStrips.calls (k : Nat) (a0 : ByteArray) (a1 : Int) (r : Bool) (w : World) (hgm : Gm w) (h : bulletinlaw15_ArticleStrips.f k a0 a1 = some r) :
    Calls Tryz.prog 8 #[.string a0, .int .i64 a1] w fun e w' => e = .returned (.bool r) ∧ Below w.heap.size w w' := by
  have HGM := Aside0.mk hgm
  clear hgm
  have HB := Aside0.mk (Below.refl w.heap.size w)
  have H : ((PA.bulletinlaw15_short.f a0 3000).bind fun t177 => ((GV.Strip.f k t177 a1).bind fun bt178 => ((PA.bulletinref15_Strip.f k t177 a1).bind fun bt180 => ((GV.known.f).bind fun t182 => (if t182 = true then (if bt178.1.toList = bt180.1.toList then (bulletinlaw15_ArticleStrips.j0 k t177 (bt178.2 != bt180.2)) else (bulletinlaw15_ArticleStrips.j0 k t177 true)) else (bulletinlaw15_ArticleStrips.j0 k t177 true)))))) = some r := h
  clear h
  replace H := Option.bind_eq_some_iff.mp H
  obtain ⟨t177, A30, H⟩ := H
  replace H : ((GV.Strip.f k t177 a1).bind fun bt178 => ((PA.bulletinref15_Strip.f k t177 a1).bind fun bt180 => ((GV.known.f).bind fun t182 => (if t182 = true then (if bt178.1.toList = bt180.1.toList then (bulletinlaw15_ArticleStrips.j0 k t177 (bt178.2 != bt180.2)) else (bulletinlaw15_ArticleStrips.j0 k t177 true)) else (bulletinlaw15_ArticleStrips.j0 k t177 true))))) = some r := H
  have A3 := Aside0.mk A30
  clear A30
  replace H := Option.bind_eq_some_iff.mp H
  obtain ⟨⟨t178, t179⟩, A40, H⟩ := H
  replace H : ((PA.bulletinref15_Strip.f k t177 a1).bind fun bt180 => ((GV.known.f).bind fun t182 => (if t182 = true then (if t178.toList = bt180.1.toList then (bulletinlaw15_ArticleStrips.j0 k t177 (t179 != bt180.2)) else (bulletinlaw15_ArticleStrips.j0 k t177 true)) else (bulletinlaw15_ArticleStrips.j0 k t177 true)))) = some r := H
  have A4 := Aside0.mk A40
  clear A40
  replace H := Option.bind_eq_some_iff.mp H
  obtain ⟨⟨t180, t181⟩, A50, H⟩ := H
  replace H : ((GV.known.f).bind fun t182 => (if t182 = true then (if t178.toList = t180.toList then (bulletinlaw15_ArticleStrips.j0 k t177 (t179 != t181)) else (bulletinlaw15_ArticleStrips.j0 k t177 true)) else (bulletinlaw15_ArticleStrips.j0 k t177 true))) = some r := H
  have A5 := Aside0.mk A50
  clear A50
  have HC6 := Aside0.mk H
  clear H
  go_enter Tryz.func8, Tryz.ntmps8
  go_upto_region 4 with (first | ((with_reducible refine gate_callee (f := 11) rfl ?_); refine goesL_ (some 14) rfl rfl Tryz.func11 (by kernel_rfl) rfl #[.string a0, .int .i64 3000] rfl (by (try simp only [List.map_toArray, List.map_cons, List.map_nil]); first | done | rfl | (simp only [List.length_drop, List.length_take]; rfl)) ?_; (with_reducible refine (PA.bulletinlaw15_short.calls a0 3000 t177 _ A3.out).mono ?_); rintro e w7 ⟨rfl, hb⟩; refine ⟨_, rfl, ?_⟩; have n0_ := Aside0.mk (below_step (by repeat (first | (with_reducible first | exact HB.out | apply below_alloc | apply pw_below_drewN | apply below_drew1) | exact HB.out)) hb); clear HB; have HB := n0_; clear n0_; (try clear hb); (try clear hb2); (try clear hk); (try clear hi)) | ((with_reducible refine gate_callee (f := 27) rfl ?_); refine goesL_ (some 18) rfl rfl Tryz.func27 (by kernel_rfl) rfl #[.string t177, .int .i64 a1] rfl (by (try simp only [List.map_toArray, List.map_cons, List.map_nil]); first | done | rfl | (simp only [List.length_drop, List.length_take]; rfl)) ?_; (with_reducible refine (GV.Strip.calls k t177 a1 t178 t179 _ A4.out).mono ?_); rintro e w8 ⟨rfl, hb⟩; refine ⟨_, rfl, ?_⟩; have n0_ := Aside0.mk (below_step (by repeat (first | (with_reducible first | exact HB.out | apply below_alloc | apply pw_below_drewN | apply below_drew1) | exact HB.out)) hb); clear HB; have HB := n0_; clear n0_; (try clear hb); (try clear hb2); (try clear hk); (try clear hi)) | ((with_reducible refine gate_callee (f := 28) rfl ?_); refine goesL_ (some 24) rfl rfl Tryz.func28 (by kernel_rfl) rfl #[.string t177, .int .i64 a1] rfl (by (try simp only [List.map_toArray, List.map_cons, List.map_nil]); first | done | rfl | (simp only [List.length_drop, List.length_take]; rfl)) ?_; (with_reducible refine (PA.bulletinref15_Strip.calls k t177 a1 t180 t181 _ A5.out).mono ?_); rintro e w9 ⟨rfl, hb⟩; refine ⟨_, rfl, ?_⟩; have n0_ := Aside0.mk (below_step (by repeat (first | (with_reducible first | exact HB.out | apply below_alloc | apply pw_below_drewN | apply below_drew1) | exact HB.out)) hb); clear HB; have HB := n0_; clear n0_; (try clear hb); (try clear hb2); (try clear hk); (try clear hi)))
  (try simp only [Act.put, List.setIfInBounds_toArray, List.set_cons_zero, List.set_cons_succ])
  go_cut [38] (fun v38 wc => ∃ (kq : Nat) (x38_5 : Bool), v38 = .bool x38_5 ∧ Aside0 (bulletinlaw15_ArticleStrips.j0 kq t177 x38_5 = some r) ∧ Aside0 (kq ≤ k) ∧ Aside0 (Below w.heap.size w wc))
  case first =>
    have H := HC6.out
    clear HC6
    replace H := Option.bind_eq_some_iff.mp H
    obtain ⟨t182, A100, H⟩ := H
    replace H : (if t182 = true then (if t178.toList = t180.toList then (bulletinlaw15_ArticleStrips.j0 k t177 (t179 != t181)) else (bulletinlaw15_ArticleStrips.j0 k t177 true)) else (bulletinlaw15_ArticleStrips.j0 k t177 true)) = some r := H
    have A10 := Aside0.mk A100
    clear A100
    by_cases c11 : t182 = true
    · subst c11
      have H1 : (if t178.toList = t180.toList then (bulletinlaw15_ArticleStrips.j0 k t177 (t179 != t181)) else (bulletinlaw15_ArticleStrips.j0 k t177 true)) = some r := by rw [if_pos rfl] at H; exact H
      clear H
      have H := H1
      clear H1
      by_cases c12 : t178.toList = t180.toList
      · rw [if_pos c12] at H
        have c12b0 : (t178.toList == t180.toList) = true := beq_iff_eq.mpr c12
        have c12b1 : (t178.toList != t180.toList) = false := bne_eq_false_iff_eq.mpr c12
        clear c12
        (first | rw [c12b0] | (simp only [i64_w, i32_w]; rw [c12b0]) | skip)
        have H' := Aside0.mk H
        clear H
        go_wp2_with (first | ((with_reducible refine gate_callee (f := 14) rfl ?_); refine goesL_ (some 27) rfl rfl Tryz.func14 (by kernel_rfl) rfl #[] rfl (by (try simp only [List.map_toArray, List.map_cons, List.map_nil]); first | done | rfl | (simp only [List.length_drop, List.length_take]; rfl)) ?_; (with_reducible refine (GV.known.calls  true _ ?side1 A10.out).mono ?_); (case side1 => exact gm_at HGM.out (by repeat (first | (with_reducible first | exact HB.out | apply below_alloc | apply pw_below_drewN | apply below_drew1) | exact HB.out))); rintro e w13 ⟨rfl, hb⟩; refine ⟨_, rfl, ?_⟩; have n0_ := Aside0.mk (below_step (by repeat (first | (with_reducible first | exact HB.out | apply below_alloc | apply pw_below_drewN | apply below_drew1) | exact HB.out)) hb); clear HB; have HB := n0_; clear n0_; (try clear hb); (try clear hb2); (try clear hk); (try clear hi)))
        go_meet
        case rel => exact ⟨_, ((t179 != t181)), (by first | rfl | (simp; done) | (simp [*]; done)), H', ⟨by first | omega | exact Nat.le_refl _⟩, ⟨by repeat (first | (with_reducible first | exact HB.out | apply below_alloc | apply pw_below_drewN | apply below_drew1) | exact HB.out)⟩⟩
      · rw [if_neg c12] at H
        have c12b0 : (t178.toList == t180.toList) = false := beq_eq_false_iff_ne.mpr c12
        have c12b1 : (t178.toList != t180.toList) = true := bne_iff_ne.mpr c12
        (first | rw [c12b0] | (simp only [i64_w, i32_w]; rw [c12b0]) | skip)
        have H' := Aside0.mk H
        clear H
        go_wp2_with (first | ((with_reducible refine gate_callee (f := 14) rfl ?_); refine goesL_ (some 27) rfl rfl Tryz.func14 (by kernel_rfl) rfl #[] rfl (by (try simp only [List.map_toArray, List.map_cons, List.map_nil]); first | done | rfl | (simp only [List.length_drop, List.length_take]; rfl)) ?_; (with_reducible refine (GV.known.calls  true _ ?side1 A10.out).mono ?_); (case side1 => exact gm_at HGM.out (by repeat (first | (with_reducible first | exact HB.out | apply below_alloc | apply pw_below_drewN | apply below_drew1) | exact HB.out))); rintro e w14 ⟨rfl, hb⟩; refine ⟨_, rfl, ?_⟩; have n0_ := Aside0.mk (below_step (by repeat (first | (with_reducible first | exact HB.out | apply below_alloc | apply pw_below_drewN | apply below_drew1) | exact HB.out)) hb); clear HB; have HB := n0_; clear n0_; (try clear hb); (try clear hb2); (try clear hk); (try clear hi)))
        go_meet
        case rel => exact ⟨_, (true), (by first | rfl | (simp; done) | (simp [*]; done)), H', ⟨by first | omega | exact Nat.le_refl _⟩, ⟨by repeat (first | (with_reducible first | exact HB.out | apply below_alloc | apply pw_below_drewN | apply below_drew1) | exact HB.out)⟩⟩
    · replace c11 := Bool.eq_false_iff.mpr c11
      subst c11
      have H1 : (bulletinlaw15_ArticleStrips.j0 k t177 true) = some r := by rw [if_neg (show ¬ (false = true) by decide)] at H; exact H
      clear H
      have H := H1
      clear H1
      have H' := Aside0.mk H
      clear H
      go_wp2_with (first | ((with_reducible refine gate_callee (f := 14) rfl ?_); refine goesL_ (some 27) rfl rfl Tryz.func14 (by kernel_rfl) rfl #[] rfl (by (try simp only [List.map_toArray, List.map_cons, List.map_nil]); first | done | rfl | (simp only [List.length_drop, List.length_take]; rfl)) ?_; (with_reducible refine (GV.known.calls  false _ ?side1 A10.out).mono ?_); (case side1 => exact gm_at HGM.out (by repeat (first | (with_reducible first | exact HB.out | apply below_alloc | apply pw_below_drewN | apply below_drew1) | exact HB.out))); rintro e w15 ⟨rfl, hb⟩; refine ⟨_, rfl, ?_⟩; have n0_ := Aside0.mk (below_step (by repeat (first | (with_reducible first | exact HB.out | apply below_alloc | apply pw_below_drewN | apply below_drew1) | exact HB.out)) hb); clear HB; have HB := n0_; clear n0_; (try clear hb); (try clear hb2); (try clear hk); (try clear hi)))
      go_meet
      case rel => exact ⟨_, (true), (by first | rfl | (simp; done) | (simp [*]; done)), H', ⟨by first | omega | exact Nat.le_refl _⟩, ⟨by repeat (first | (with_reducible first | exact HB.out | apply below_alloc | apply pw_below_drewN | apply below_drew1) | exact HB.out)⟩⟩
  case rest =>
    clear HC6
    try clear c1
    try clear c2
    try clear p2
    try clear c8
    try clear c11
    try clear c12
    try clear c12b0
    try clear c12b1
    try clear c14
    obtain ⟨kq, x38_5, rfl, HA, HJ5, HB⟩ := hcut
    cases kq with
    | zero => exact absurd HA.out (by simp [bulletinlaw15_ArticleStrips.j0])
    | succ kj5 =>
      have H := HA.out
      clear HA
      simp only [bulletinlaw15_ArticleStrips.j0] at H
      by_cases c16 : x38_5 = true
      · subst c16
        have H1 : (some false) = some r := by rw [if_pos rfl] at H; exact H
        clear H
        have H := H1
        clear H1
        obtain rfl := Option.some.inj H
        go_wp2
        go_ret
        exact ⟨by first | rfl | (simp [errW_none, errW_some] <;> rfl) | (simp [*, errW_none, errW_some] <;> rfl), by repeat (first | (with_reducible first | exact HB.out | apply below_alloc | apply pw_below_drewN | apply below_drew1) | exact HB.out)⟩
      · replace c16 := Bool.eq_false_iff.mpr c16
        subst c16
        have H1 : ((GV.Quote.f kj5 t177).bind fun bt183 => ((GV.Strip.f kj5 bt183.1 1).bind fun bt185 => (if bt183.2 = 0 then (if bt185.1.toList = ([] : List UInt8) then (some (bt185.2 == 0)) else (some false)) else (some true)))) = some r := by rw [if_neg (show ¬ (false = true) by decide)] at H; exact H
        clear H
        have H := H1
        clear H1
        replace H := Option.bind_eq_some_iff.mp H
        obtain ⟨⟨t183, t184⟩, A170, H⟩ := H
        replace H : ((GV.Strip.f kj5 t183 1).bind fun bt185 => (if t184 = 0 then (if bt185.1.toList = ([] : List UInt8) then (some (bt185.2 == 0)) else (some false)) else (some true))) = some r := H
        have A17 := Aside0.mk A170
        clear A170
        replace H := Option.bind_eq_some_iff.mp H
        obtain ⟨⟨t185, t186⟩, A180, H⟩ := H
        replace H : (if t184 = 0 then (if t185.toList = ([] : List UInt8) then (some (t186 == 0)) else (some false)) else (some true)) = some r := H
        have A18 := Aside0.mk A180
        clear A180
        by_cases c19 : t184 = 0
        · rw [if_pos c19] at H
          have c19b0 : (t184 == 0) = true := beq_iff_eq.mpr c19
          have c19b1 : (t184 != 0) = false := bne_eq_false_iff_eq.mpr c19
          clear c19
          by_cases c20 : t185.toList = ([] : List UInt8)
          · rw [if_pos c20] at H
            have c20b0 : (t185.toList == ([] : List UInt8)) = true := beq_iff_eq.mpr c20
            have c20b1 : (t185.toList != ([] : List UInt8)) = false := bne_eq_false_iff_eq.mpr c20
            clear c20
            obtain rfl := Option.some.inj H
            go_wp2_with (first | ((with_reducible refine gate_callee (f := 21) rfl ?_); refine goesL_ (some 41) rfl rfl Tryz.func21 (by kernel_rfl) rfl #[.string t177] rfl (by (try simp only [List.map_toArray, List.map_cons, List.map_nil]); first | done | rfl | (simp only [List.length_drop, List.length_take]; rfl)) ?_; (with_reducible refine (GV.Quote.calls kj5 t177 t183 t184 _ A17.out).mono ?_); rintro e w21 ⟨rfl, hb⟩; refine ⟨_, rfl, ?_⟩; have n0_ := Aside0.mk (below_step (by repeat (first | (with_reducible first | exact HB.out | apply below_alloc | apply pw_below_drewN | apply below_drew1) | exact HB.out)) hb); clear HB; have HB := n0_; clear n0_; (try clear hb); (try clear hb2); (try clear hk); (try clear hi)) | ((with_reducible refine gate_callee (f := 27) rfl ?_); refine goesL_ (some 46) rfl rfl Tryz.func27 (by kernel_rfl) rfl #[.string t183, .int .i64 1] rfl (by (try simp only [List.map_toArray, List.map_cons, List.map_nil]); first | done | rfl | (simp only [List.length_drop, List.length_take]; rfl)) ?_; (with_reducible refine (GV.Strip.calls kj5 t183 1 t185 t186 _ A18.out).mono ?_); rintro e w22 ⟨rfl, hb⟩; refine ⟨_, rfl, ?_⟩; have n0_ := Aside0.mk (below_step (by repeat (first | (with_reducible first | exact HB.out | apply below_alloc | apply pw_below_drewN | apply below_drew1) | exact HB.out)) hb); clear HB; have HB := n0_; clear n0_; (try clear hb); (try clear hb2); (try clear hk); (try clear hi)))
            go_ret
            exact ⟨by first | rfl | (simp [errW_none, errW_some] <;> rfl) | (simp [*, errW_none, errW_some] <;> rfl), by repeat (first | (with_reducible first | exact HB.out | apply below_alloc | apply pw_below_drewN | apply below_drew1) | exact HB.out)⟩
          · rw [if_neg c20] at H
            have c20b0 : (t185.toList == ([] : List UInt8)) = false := beq_eq_false_iff_ne.mpr c20
            have c20b1 : (t185.toList != ([] : List UInt8)) = true := bne_iff_ne.mpr c20
            obtain rfl := Option.some.inj H
            go_wp2_with (first | ((with_reducible refine gate_callee (f := 21) rfl ?_); refine goesL_ (some 41) rfl rfl Tryz.func21 (by kernel_rfl) rfl #[.string t177] rfl (by (try simp only [List.map_toArray, List.map_cons, List.map_nil]); first | done | rfl | (simp only [List.length_drop, List.length_take]; rfl)) ?_; (with_reducible refine (GV.Quote.calls kj5 t177 t183 t184 _ A17.out).mono ?_); rintro e w23 ⟨rfl, hb⟩; refine ⟨_, rfl, ?_⟩; have n0_ := Aside0.mk (below_step (by repeat (first | (with_reducible first | exact HB.out | apply below_alloc | apply pw_below_drewN | apply below_drew1) | exact HB.out)) hb); clear HB; have HB := n0_; clear n0_; (try clear hb); (try clear hb2); (try clear hk); (try clear hi)) | ((with_reducible refine gate_callee (f := 27) rfl ?_); refine goesL_ (some 46) rfl rfl Tryz.func27 (by kernel_rfl) rfl #[.string t183, .int .i64 1] rfl (by (try simp only [List.map_toArray, List.map_cons, List.map_nil]); first | done | rfl | (simp only [List.length_drop, List.length_take]; rfl)) ?_; (with_reducible refine (GV.Strip.calls kj5 t183 1 t185 t186 _ A18.out).mono ?_); rintro e w24 ⟨rfl, hb⟩; refine ⟨_, rfl, ?_⟩; have n0_ := Aside0.mk (below_step (by repeat (first | (with_reducible first | exact HB.out | apply below_alloc | apply pw_below_drewN | apply below_drew1) | exact HB.out)) hb); clear HB; have HB := n0_; clear n0_; (try clear hb); (try clear hb2); (try clear hk); (try clear hi)))
            go_ret
            exact ⟨by first | rfl | (simp [errW_none, errW_some] <;> rfl) | (simp [*, errW_none, errW_some] <;> rfl), by repeat (first | (with_reducible first | exact HB.out | apply below_alloc | apply pw_below_drewN | apply below_drew1) | exact HB.out)⟩
        · rw [if_neg c19] at H
          have c19b0 : (t184 == 0) = false := beq_eq_false_iff_ne.mpr c19
          have c19b1 : (t184 != 0) = true := bne_iff_ne.mpr c19
          obtain rfl := Option.some.inj H
          go_wp2_with (first | ((with_reducible refine gate_callee (f := 21) rfl ?_); refine goesL_ (some 41) rfl rfl Tryz.func21 (by kernel_rfl) rfl #[.string t177] rfl (by (try simp only [List.map_toArray, List.map_cons, List.map_nil]); first | done | rfl | (simp only [List.length_drop, List.length_take]; rfl)) ?_; (with_reducible refine (GV.Quote.calls kj5 t177 t183 t184 _ A17.out).mono ?_); rintro e w25 ⟨rfl, hb⟩; refine ⟨_, rfl, ?_⟩; have n0_ := Aside0.mk (below_step (by repeat (first | (with_reducible first | exact HB.out | apply below_alloc | apply pw_below_drewN | apply below_drew1) | exact HB.out)) hb); clear HB; have HB := n0_; clear n0_; (try clear hb); (try clear hb2); (try clear hk); (try clear hi)) | ((with_reducible refine gate_callee (f := 27) rfl ?_); refine goesL_ (some 46) rfl rfl Tryz.func27 (by kernel_rfl) rfl #[.string t183, .int .i64 1] rfl (by (try simp only [List.map_toArray, List.map_cons, List.map_nil]); first | done | rfl | (simp only [List.length_drop, List.length_take]; rfl)) ?_; (with_reducible refine (GV.Strip.calls kj5 t183 1 t185 t186 _ A18.out).mono ?_); rintro e w26 ⟨rfl, hb⟩; refine ⟨_, rfl, ?_⟩; have n0_ := Aside0.mk (below_step (by repeat (first | (with_reducible first | exact HB.out | apply below_alloc | apply pw_below_drewN | apply below_drew1) | exact HB.out)) hb); clear HB; have HB := n0_; clear n0_; (try clear hb); (try clear hb2); (try clear hk); (try clear hi)))
          go_ret
          exact ⟨by first | rfl | (simp [errW_none, errW_some] <;> rfl) | (simp [*, errW_none, errW_some] <;> rfl), by repeat (first | (with_reducible first | exact HB.out | apply below_alloc | apply pw_below_drewN | apply below_drew1) | exact HB.out)⟩

/-- THE ONE PURE STATEMENT of bulletinlaw15_ArticleStrips: yours. -/
def bulletinlaw15_ArticleStrips.Pure : Prop := ∀ (a0 : ByteArray) (a1 : Int), a0.size ≤ 140737488351232 → (Lit.int .i64 a1).wf = true → ∃ k, bulletinlaw15_ArticleStrips.f k a0 a1 = some true
theorem bulletinlaw15_ArticleStrips.walk (P : bulletinlaw15_ArticleStrips.Pure) (a0 : ByteArray) (a1 : Int) (w : World) (hgm : Gm w) (w0 : a0.size ≤ 140737488351232) (w1 : (Lit.int .i64 a1).wf = true) :
    Calls Tryz.prog 8 #[.string a0, .int .i64 a1] w fun e w' => e = .returned (.bool true) ∧ Below w.heap.size w w' := by
  obtain ⟨k, h⟩ := P a0 a1 w0 w1
  refine (bulletinlaw15_ArticleStrips.calls k a0 a1 true w hgm h).mono ?_
  rintro e w' ⟨rfl, hd⟩
  exact ⟨rfl, hd⟩

/-! ### bulletinlaw15_ArticleToLine: function 9 -/
/-! ### bulletinlaw15_ArticleFromLine: function 10 -/
end Go.Proofs.YtfeciafdioepiaaGreatDoor.PL
set_option linter.unusedVariables false
set_option linter.unusedSimpArgs false
/- The reference's ValidName as a function on lists. -/
namespace Go.Proofs.YtfeciafdioepiaaGreatDoor
open Go.RowKit Go.Proofs Go.Proofs.YtfeciafdioepiaaGreatDoorW.PrintWords Go.Proofs.YtfeciafdioepiaaGreatDoor.PA

theorem mn_nat (a b : Nat) : mn (a : Int) (b : Int) = ((min a b : Nat) : Int) := by unfold mn; split <;> omega
end Go.Proofs.YtfeciafdioepiaaGreatDoor

/- Plain: what the printed functions of the reference compute, for all large numbers of rounds: Words, Printable, Squeeze, Check, Fold. -/
namespace Go.Proofs.YtfeciafdioepiaaGreatDoor
open Go.RowKit Go.Proofs Go.Proofs.YtfeciafdioepiaaGreatDoorW.PrintWords Go.Proofs.YtfeciafdioepiaaGreatDoor.PA

/-- From some number of rounds on. -/
def Ev {α : Type} (f : Nat → Option α) (r : α) : Prop := ∃ K, ∀ k, K ≤ k → f k = some r
section
variable {α β : Type}
theorem Ev.const {o : Option α} {r : α} (h : o = some r) : Ev (fun _ => o) r := ⟨0, fun _ _ => h⟩
theorem Ev.bind {f : Nat → Option α} {g : Nat → α → Option β} {a : α} {r : β} (h : Ev f a) (k : Ev (fun n => g n a) r) : Ev (fun n => (f n).bind (g n)) r := by
  obtain ⟨K, h⟩ := h
  obtain ⟨K', k⟩ := k
  refine ⟨max K K', fun n hn => ?_⟩
  show (f n).bind (g n) = some r
  rw [h n (by omega), Option.bind_some]
  exact k n (by omega)
theorem Ev.ite_pos {c : Prop} [Decidable c] {f g : Nat → Option α} {r : α} (h : c) (k : Ev f r) : Ev (fun n => if c then f n else g n) r := by
  simpa [h] using k
theorem Ev.ite_neg {c : Prop} [Decidable c] {f g : Nat → Option α} {r : α} (h : ¬ c) (k : Ev g r) : Ev (fun n => if c then f n else g n) r := by
  simpa [h] using k
theorem Ev.next {f : Nat → Option α} {r : α} (h : Ev (fun n => f (n + 1)) r) : Ev f r := by
  obtain ⟨K, h⟩ := h
  refine ⟨K + 1, fun n hn => ?_⟩
  obtain ⟨m, rfl⟩ : ∃ m, n = m + 1 := ⟨n - 1, by omega⟩
  exact h m (by omega)
theorem Ev.is {f : Nat → Option α} {r r' : α} (h : Ev f r) (e : r = r') : Ev f r' := e ▸ h
theorem Ev.same {f g : Nat → Option α} {r : α} (h : Ev g r) (e : ∀ n, f n = g n) : Ev f r := by
  obtain ⟨K, h⟩ := h
  exact ⟨K, fun n hn => (e n).trans (h n hn)⟩
theorem Ev.rpos {c : Prop} [Decidable c] {f : Nat → Option α} {a b : α} (h : c) (k : Ev f a) : Ev f (if c then a else b) := by rw [if_pos h]; exact k
theorem Ev.rneg {c : Prop} [Decidable c] {f : Nat → Option α} {a b : α} (h : ¬ c) (k : Ev f b) : Ev f (if c then a else b) := by rw [if_neg h]; exact k
theorem Ev.at_ {f : Nat → Option α} {r : α} (h : Ev f r) : ∃ k, f k = some r := by
  obtain ⟨K, h⟩ := h
  exact ⟨K, h K (Nat.le_refl _)⟩
end

theorem wrap_nat (i : Nat) (h : i < 100000000000000) : wrap64 ((i : Int) + 1) = ((i + 1 : Nat) : Int) := by unfold wrap64; omega

theorem wrap_add (a b : Nat) (h : a + b < 100000000000000) : wrap64 ((a : Int) + (b : Int)) = ((a + b : Nat) : Int) := by unfold wrap64; omega
/-! ### Words -/
/-! ### Printable -/
/-! ### Squeeze -/
end Go.Proofs.YtfeciafdioepiaaGreatDoor

/- Plain: Check and Fold of the program. -/
namespace Go.Proofs.YtfeciafdioepiaaGreatDoor
open Go.RowKit Go.Proofs Go.Proofs.YtfeciafdioepiaaGreatDoorW.PrintWords Go.Proofs.YtfeciafdioepiaaGreatDoor.PA

end Go.Proofs.YtfeciafdioepiaaGreatDoor
set_option linter.unusedVariables false
set_option linter.unusedSimpArgs false
namespace Go.Proofs.YtfeciafdioepiaaGreatDoor
open Go.RowKit Go.Proofs Go.Proofs.YtfeciafdioepiaaGreatDoorW.PrintWords Go.Proofs.YtfeciafdioepiaaGreatDoor.PA

theorem endL (l : List UInt8) (hl : l.length ≤ 1000000) : ∀ d k i : Nat, l.length - i = d → d < k → i ≤ l.length →
    bulletinref15_end.l0 k (mkS l) (i : Int) = some ((i + lineN (l.drop i) : Nat) : Int) := by
  intro d
  induction d with
  | zero =>
    intro k i hd hk hi
    obtain ⟨k, rfl⟩ : ∃ m, k = m + 1 := ⟨k - 1, by omega⟩
    have h1 : l.drop i = [] := List.drop_eq_nil_of_le (by omega)
    unfold bulletinref15_end.l0
    rw [if_neg (by rw [mkS_size]; omega), h1]
    simp [lineN, spanL]
  | succ d ih =>
    intro k i hd hk hi
    obtain ⟨k, rfl⟩ : ∃ m, k = m + 1 := ⟨k - 1, by omega⟩
    have hlt : i < l.length := by omega
    have h1 : l.drop i = l[i] :: l.drop (i + 1) := List.drop_eq_getElem_cons hlt
    unfold bulletinref15_end.l0
    rw [if_pos (by rw [mkS_size]; omega), if_pos (by omega), bt_mk l i hlt]
    by_cases hc : l[i] = 10
    · rw [if_pos (by rw [hc]; rfl), h1]
      simp [lineN, spanL, notNl, hc]
    · rw [if_neg (fun h => hc ((toNat_int l[i] 10 (by omega)).1 h)), wrap64_small (by omega) (by omega)]
      have := ih k (i + 1) (by omega) (by omega) (by omega)
      rw [show ((i : Int) + 1) = ((i + 1 : Nat) : Int) by omega, this, h1]
      have h2 : lineN (l[i] :: l.drop (i + 1)) = lineN (l.drop (i + 1)) + 1 := by
        have hn : notNl l[i] = true := by simp [notNl, hc]
        simp [lineN, spanL, hn]
      rw [h2]
      congr 2
      omega
theorem endF (l : List UInt8) (hl : l.length ≤ 1000000) (k i : Nat) (hk : l.length - i < k) (hi : i ≤ l.length) : bulletinref15_end.f k (mkS l) (i : Int) = some ((i + lineN (l.drop i) : Nat) : Int) :=
  endL l hl _ k i rfl hk hi
end Go.Proofs.YtfeciafdioepiaaGreatDoor
set_option linter.unusedVariables false
set_option linter.unusedSimpArgs false
namespace Go.Proofs.YtfeciafdioepiaaGreatDoor
open Go.RowKit Go.Proofs Go.Proofs.YtfeciafdioepiaaGreatDoorW.PrintWords Go.Proofs.YtfeciafdioepiaaGreatDoorW.PrintMore Go.Proofs.YtfeciafdioepiaaGreatDoor.PA

theorem Ev.of_mono {α : Type} {f : Nat → Option α} (hm : ∀ k, LeO (f k) (f (k + 1))) {K : Nat} {r : α} (h : f K = some r) : Ev f r := by
  refine ⟨K, fun k hk => ?_⟩
  obtain ⟨m, rfl⟩ : ∃ m, k = K + m := ⟨k - K, by omega⟩
  clear hk
  induction m with
  | zero => exact h
  | succ m ih => exact hm _ _ ih
theorem begins_one (c : UInt8) : ∃ v : Int, Ev (fun k => bulletinref03_Begins.f k (mkS [c])) (decide (sizeU c ≠ 0), (sizeU c : Int), v) := by
  have h : (bulletinref03_Begins.f 8 (mkS [c])).map (fun x => (x.1, x.2.1)) = some (decide (sizeU c ≠ 0), (sizeU c : Int)) := by
    refine all_u8 (P := fun c => (bulletinref03_Begins.f 8 (mkS [c])).map (fun x => (x.1, x.2.1)) = some (decide (sizeU c ≠ 0), (sizeU c : Int))) ?_ c
    decide +kernel
  cases hb : bulletinref03_Begins.f 8 (mkS [c]) with
  | none => rw [hb] at h; cases h
  | some x =>
    obtain ⟨b, n, v⟩ := x
    rw [hb] at h
    injection h with h
    injection h with h1 h2
    subst h1 h2
    generalize mkS [c] = s at *
    exact ⟨v, Ev.of_mono (f := fun k => bulletinref03_Begins.f k s) (fun k => bulletinref03_Begins.mono _ _) hb⟩
theorem lead_fix (c : UInt8) : sizeU c ≠ 0 → bulletinref03_lead.f 4 (c.toNat : Int) = some ((sizeU c : Int), ((c.toNat % modU (sizeU c) : Nat) : Int)) := by
  have key : ∀ c : UInt8, sizeU c ≠ 0 → bulletinref03_lead.f 4 (c.toNat : Int) = some ((sizeU c : Int), ((c.toNat % modU (sizeU c) : Nat) : Int)) := by
    apply all_u8
    decide +kernel
  exact key c
theorem lead_one (c : UInt8) (h : sizeU c ≠ 0) : Ev (fun k => bulletinref03_lead.f k (c.toNat : Int)) ((sizeU c : Int), ((c.toNat % modU (sizeU c) : Nat) : Int)) := by
  have hf := lead_fix c h
  generalize (c.toNat % modU (sizeU c) : Nat) = m at *
  generalize (sizeU c : Int) = s at *
  generalize (c.toNat : Int) = x at *
  exact Ev.of_mono (f := fun k => bulletinref03_lead.f k x) (fun k => bulletinref03_lead.mono _ _) hf
theorem least_n (n : Nat) (h1 : 1 ≤ n) (h4 : n ≤ 4) : bulletinref03_least.f (n : Int) = some (minU n : Int) := by
  have : n = 1 ∨ n = 2 ∨ n = 3 ∨ n = 4 := by omega
  rcases this with rfl | rfl | rfl | rfl <;> rfl
theorem most_n (n : Nat) (h1 : 1 ≤ n) (h4 : n ≤ 4) : bulletinref03_most.f (n : Int) = some (maxU n : Int) := by
  have : n = 1 ∨ n = 2 ∨ n = 3 ∨ n = 4 := by omega
  rcases this with rfl | rfl | rfl | rfl <;> rfl
theorem modU_le (n : Nat) : modU n ≤ 128 ∧ 0 < modU n := by
  unfold modU; split <;> omega
theorem min_le_max (n : Nat) : minU n ≤ maxU n ∧ maxU n ≤ 1114111 := by
  unfold minU maxU; split <;> omega

theorem l1_some (n : Nat) (h1 : 1 ≤ n) (h4 : n ≤ 4) (v : Int) : ∀ d i : Nat, n - i = d → ∀ lo hi : Int, ∃ R, Ev (fun k => bulletinref03_Begins.l1 k (n : Int) v lo hi (i : Int)) R := by
  intro d
  induction d with
  | zero =>
    intro i hd lo hi
    have key : ∀ R, Ev (fun _ : Nat => if mx lo (minU n : Int) ≥ 55296 then (if mn hi (maxU n : Int) ≤ 57343 then (some (false, 0, 0)) else (if mx lo (minU n : Int) > mn hi (maxU n : Int) then (some (false, 0, 0)) else (some (true, (n : Int), v)))) else (if mx lo (minU n : Int) > mn hi (maxU n : Int) then (some (false, 0, 0)) else (some (true, (n : Int), v)))) R → ∃ R, Ev (fun k => bulletinref03_Begins.l1 k (n : Int) v lo hi (i : Int)) R := by
      intro R hR
      refine ⟨R, Ev.next ?_⟩
      simp only [bulletinref03_Begins.l1]
      refine Ev.ite_neg (by omega) ?_
      rw [least_n n h1 h4, most_n n h1 h4]
      exact hR
    by_cases h5 : mx lo (minU n : Int) ≥ 55296
    · by_cases h6 : mn hi (maxU n : Int) ≤ 57343
      · exact key _ (Ev.ite_pos h5 (Ev.ite_pos h6 (Ev.const rfl)))
      · by_cases h7 : mx lo (minU n : Int) > mn hi (maxU n : Int)
        · exact key _ (Ev.ite_pos h5 (Ev.ite_neg h6 (Ev.ite_pos h7 (Ev.const rfl))))
        · exact key _ (Ev.ite_pos h5 (Ev.ite_neg h6 (Ev.ite_neg h7 (Ev.const rfl))))
    · by_cases h7 : mx lo (minU n : Int) > mn hi (maxU n : Int)
      · exact key _ (Ev.ite_neg h5 (Ev.ite_pos h7 (Ev.const rfl)))
      · exact key _ (Ev.ite_neg h5 (Ev.ite_neg h7 (Ev.const rfl)))
  | succ d ih =>
    intro i hd lo hi
    obtain ⟨R, h⟩ := ih (i + 1) (by omega) (wrap64 (64 * lo)) (wrap64 ((wrap64 (64 * hi)) + 63))
    refine ⟨R, Ev.next ?_⟩
    simp only [bulletinref03_Begins.l1]
    refine Ev.ite_pos (by omega) ?_
    rw [wrap_nat i (by omega)]
    exact h
theorem l1_full (n : Nat) (h1 : 1 ≤ n) (h4 : n ≤ 4) (v : Nat) : Ev (fun k => bulletinref03_Begins.l1 k (n : Int) (v : Int) (v : Int) (v : Int) (n : Int)) (if okVal n v then (true, (n : Int), (v : Int)) else (false, 0, 0)) := by
  refine Ev.next ?_
  simp only [bulletinref03_Begins.l1]
  refine Ev.ite_neg (by omega) ?_
  rw [least_n n h1 h4, most_n n h1 h4]
  simp only [Option.bind_some]
  obtain ⟨hm, hM⟩ := min_le_max n
  have hok : okVal n v = true ↔ (minU n ≤ v ∧ v ≤ maxU n ∧ ¬ (55296 ≤ v ∧ v ≤ 57343)) := by
    unfold okVal
    simp only [Bool.and_eq_true, decide_eq_true_iff, Bool.not_eq_true', Bool.and_eq_false_iff, decide_eq_false_iff_not]
    omega
  generalize minU n = a at *
  generalize maxU n = b at *
  have e1 : mx (v : Int) (a : Int) = ((max v a : Nat) : Int) := by unfold mx; split <;> omega
  have e2 : mn (v : Int) (b : Int) = ((min v b : Nat) : Int) := by unfold mn; split <;> omega
  rw [e1, e2]
  by_cases h : okVal n v = true
  · rw [if_pos h]
    have h' := hok.1 h
    by_cases h5 : ((max v a : Nat) : Int) ≥ 55296
    · exact Ev.ite_pos h5 (Ev.ite_neg (by omega) (Ev.ite_neg (by omega) (Ev.const rfl)))
    · exact Ev.ite_neg h5 (Ev.ite_neg (by omega) (Ev.const rfl))
  · rw [if_neg h]
    have h' : ¬ (a ≤ v ∧ v ≤ b ∧ ¬ (55296 ≤ v ∧ v ≤ 57343)) := fun x => h (hok.2 x)
    by_cases h5 : ((max v a : Nat) : Int) ≥ 55296
    · refine Ev.ite_pos h5 ?_
      by_cases h6 : ((min v b : Nat) : Int) ≤ 57343
      · exact Ev.ite_pos h6 (Ev.const rfl)
      · exact Ev.ite_neg h6 (Ev.ite_pos (by omega) (Ev.const rfl))
    · exact Ev.ite_neg h5 (Ev.ite_pos (by omega) (Ev.const rfl))
theorem wrap64_mid {x : Int} (h0 : 0 ≤ x) (h1 : x ≤ 1000000000000) : wrap64 x = x := by unfold wrap64; omega
theorem wrap_digit (v c : Nat) (hv : v ≤ 33554432) (h1 : 128 ≤ c) (h2 : c ≤ 191) : wrap64 ((wrap64 ((wrap64 (64 * (v : Int))) + (wrap64 (c : Int)))) - 128) = ((v * 64 + c % 64 : Nat) : Int) := by
  rw [wrap64_mid (x := 64 * (v : Int)) (by omega) (by omega), wrap64_mid (x := (c : Int)) (by omega) (by omega), wrap64_mid (x := 64 * (v : Int) + (c : Int)) (by omega) (by omega), wrap64_mid (by omega) (by omega)]
  omega
theorem cont_int (b : UInt8) : isCont b = true ↔ (128 ≤ b.toNat ∧ b.toNat ≤ 191) := by
  unfold isCont
  have := b.toNat_lt
  rw [decide_eq_true_iff]; omega
/-- The rounds over the bytes that follow. -/
theorem l0_rounds (l : List UInt8) (hl : l.length ≤ 4) (n : Nat) : ∀ d i v : Nat, l.length - i = d → i ≤ l.length → (v + 1) * 64 ^ d ≤ 33554432 → ∀ R,
    ((l.drop i).all isCont = true → Ev (fun k => bulletinref03_Begins.l1 k (n : Int) (((l.drop i).foldl (fun v b => v * 64 + b.toNat % 64) v : Nat) : Int) (((l.drop i).foldl (fun v b => v * 64 + b.toNat % 64) v : Nat) : Int) (((l.drop i).foldl (fun v b => v * 64 + b.toNat % 64) v : Nat) : Int) (l.length : Int)) R) →
    Ev (fun k => bulletinref03_Begins.l0 k (mkS l) (n : Int) (v : Int) (i : Int)) (if (l.drop i).all isCont then R else (false, 0, 0)) := by
  intro d
  induction d with
  | zero =>
    intro i v hd hi hv R hR
    have h0 : l.drop i = [] := List.drop_eq_nil_of_le (by omega)
    rw [h0] at hR ⊢
    refine Ev.next ?_
    simp only [bulletinref03_Begins.l0, mkS_size]
    refine Ev.ite_neg (by omega) ?_
    exact hR rfl
  | succ d ih =>
    intro i v hd hi hv R hR
    have hlt : i < l.length := by omega
    have hdr : l.drop i = l[i] :: l.drop (i + 1) := List.drop_eq_getElem_cons hlt
    have hp : 64 ^ (d + 1) = 64 ^ d * 64 := Nat.pow_succ ..
    have hp0 : 0 < 64 ^ d := Nat.pow_pos (by omega)
    have hb := l[i].toNat_lt
    have hv1 : (v + 1) * 64 ≤ 33554432 := by
      refine Nat.le_trans ?_ hv
      rw [hp, ← Nat.mul_assoc]
      exact Nat.mul_le_mul_right 64 (Nat.le_mul_of_pos_right _ hp0)
    have hv2 : (v * 64 + l[i].toNat % 64 + 1) * 64 ^ d ≤ 33554432 := by
      refine Nat.le_trans ?_ hv
      rw [hp, Nat.mul_comm (64 ^ d) 64, ← Nat.mul_assoc]
      exact Nat.mul_le_mul_right _ (by omega)
    refine Ev.next ?_
    simp only [bulletinref03_Begins.l0, mkS_size]
    refine Ev.ite_pos (by omega) (Ev.ite_pos (by omega) ?_)
    rw [bt_mk l i hlt, hdr, List.all_cons]
    by_cases hc : isCont l[i] = true
    · have hc' := (cont_int _).1 hc
      refine Ev.ite_neg (by omega) (Ev.ite_neg (by omega) ?_)
      rw [wrap_digit v l[i].toNat (by omega) hc'.1 hc'.2, wrap_nat i (by omega), hc, Bool.true_and]
      refine ih (i + 1) _ (by omega) (by omega) hv2 R ?_
      intro ha
      have := hR (by rw [hdr, List.all_cons, hc, ha]; rfl)
      rw [hdr] at this
      exact this
    · have hc' : ¬ (128 ≤ l[i].toNat ∧ l[i].toNat ≤ 191) := fun x => hc ((cont_int _).2 x)
      have hcf : isCont l[i] = false := by simpa using hc
      rw [hcf, Bool.false_and]
      by_cases h1 : (l[i].toNat : Int) < 128
      · exact Ev.ite_pos h1 (Ev.const rfl)
      · exact Ev.ite_neg h1 (Ev.ite_pos (by omega) (Ev.const rfl))
theorem pow64 (d : Nat) (h : d ≤ 3) : 64 ^ d ≤ 262144 := by
  have : d = 0 ∨ d = 1 ∨ d = 2 ∨ d = 3 := by omega
  rcases this with rfl | rfl | rfl | rfl <;> decide
theorem begins_gen (c : UInt8) (t : List UInt8) (h : sizeU c ≠ 0) (hl : (c :: t).length ≤ sizeU c) (R : Bool × Int × Int)
    (hR : t.all isCont = true → Ev (fun k => bulletinref03_Begins.l1 k (sizeU c : Int) ((valL (modU (sizeU c)) (c :: t) : Nat) : Int) ((valL (modU (sizeU c)) (c :: t) : Nat) : Int) ((valL (modU (sizeU c)) (c :: t) : Nat) : Int) ((c :: t).length : Int)) R) :
    Ev (fun k => bulletinref03_Begins.f k (mkS (c :: t))) (if t.all isCont then R else (false, 0, 0)) := by
  have hs := (sizeU_of c).1
  have hlc : (c :: t).length = t.length + 1 := rfl
  have hb : bt (mkS (c :: t)) 0 = (c.toNat : Int) := bt_mk (c :: t) 0 (by omega)
  have hm := modU_le (sizeU c)
  unfold bulletinref03_Begins.f
  simp only [mkS_size]
  rw [hb]
  refine Ev.ite_pos (by omega) (Ev.bind (lead_one c h) ?_)
  refine Ev.ite_neg (by omega) ?_
  have hd : decide (((c :: t).length : Int) > (sizeU c : Int)) = false := decide_eq_false (by omega)
  rw [hd]
  refine Ev.next ?_
  simp only [bulletinref03_Begins.j0]
  refine Ev.ite_neg (by simp) ?_
  have hv : c.toNat % modU (sizeU c) < modU (sizeU c) := Nat.mod_lt _ hm.2
  have hv2 : c.toNat % modU (sizeU c) + 1 ≤ 128 := by omega
  have := l0_rounds (c :: t) (by omega) (sizeU c) ((c :: t).length - 1) 1 (c.toNat % modU (sizeU c)) rfl (by omega)
    (Nat.le_trans (Nat.mul_le_mul hv2 (pow64 _ (by omega))) (by omega)) R (fun ha => hR ha)
  exact this
theorem begins_full (c : UInt8) (t : List UInt8) (h : sizeU c ≠ 0) (hl : (c :: t).length = sizeU c) :
    ∃ v : Int, Ev (fun k => bulletinref03_Begins.f k (mkS (c :: t))) (okAll (sizeU c) (c :: t), (if okAll (sizeU c) (c :: t) then (sizeU c : Int) else 0), v) ∧ (okAll (sizeU c) (c :: t) = true → v = ((valL (modU (sizeU c)) (c :: t) : Nat) : Int)) := by
  have hs := (sizeU_of c).1
  have hlc : (c :: t).length = t.length + 1 := rfl
  have hg := begins_gen c t h (by omega) _ (fun _ => by rw [hl]; exact l1_full (sizeU c) (by omega) (by omega) (valL (modU (sizeU c)) (c :: t)))
  have hok : okAll (sizeU c) (c :: t) = (t.all isCont && okVal (sizeU c) (valL (modU (sizeU c)) (c :: t))) := rfl
  by_cases h1 : t.all isCont = true
  · by_cases h2 : okVal (sizeU c) (valL (modU (sizeU c)) (c :: t)) = true
    · rw [hok, h1, h2]
      rw [if_pos h1, if_pos h2] at hg
      exact ⟨_, hg, fun _ => rfl⟩
    · have h2' : okVal (sizeU c) (valL (modU (sizeU c)) (c :: t)) = false := by simpa using h2
      rw [hok, h1, h2']
      rw [if_pos h1, if_neg h2] at hg
      exact ⟨_, hg, fun h => by simp at h⟩
  · have h1' : t.all isCont = false := by simpa using h1
    rw [hok, h1']
    rw [if_neg h1] at hg
    exact ⟨_, hg, fun h => by simp at h⟩
theorem begins_part (c : UInt8) (t : List UInt8) (h : sizeU c ≠ 0) (hl : (c :: t).length ≤ sizeU c) : ∃ R, Ev (fun k => bulletinref03_Begins.f k (mkS (c :: t))) R := by
  have hs := (sizeU_of c).1
  obtain ⟨R, hR⟩ := l1_some (sizeU c) (by omega) (by omega) ((valL (modU (sizeU c)) (c :: t) : Nat) : Int) _ (c :: t).length rfl ((valL (modU (sizeU c)) (c :: t) : Nat) : Int) ((valL (modU (sizeU c)) (c :: t) : Nat) : Int)
  exact ⟨_, begins_gen c t h hl R (fun _ => hR)⟩
/-- The reference's First. -/
def FirstRes (l : List UInt8) (R : Int × Int × Int) : Prop := match decR l with
  | some (v, n) => R = ((v : Int), (n : Int), 0)
  | none => R.2.2 ≠ 0
theorem refFirst (l : List UInt8) (h0 : l ≠ []) : ∃ R, Ev (fun k => bulletinref03_First.f k (mkS l)) R ∧ FirstRes l R := by
  obtain ⟨c, t, rfl⟩ : ∃ c t, l = c :: t := by
    cases l with
    | nil => exact absurd rfl h0
    | cons c t => exact ⟨c, t, rfl⟩
  have hs := (sizeU_of c).1
  have hlc : (c :: t).length = t.length + 1 := rfl
  have e1 : (mkS (c :: t)).extract 0 1 = mkS [c] := by rw [extract_mk, mkS_toList]; rfl
  obtain ⟨v1, h1⟩ := begins_one c
  unfold bulletinref03_First.f
  simp only [mkS_size]
  rw [e1]
  by_cases hz : sizeU c = 0
  · have hd : decR (c :: t) = none := by simp only [decR]; rw [if_pos (.inl hz)]
    refine ⟨(0, 0, 6), ?_, by unfold FirstRes; rw [hd]; decide⟩
    refine Ev.ite_pos (by omega) (Ev.ite_pos (by omega) (Ev.bind h1 (Ev.ite_neg ?_ (Ev.const rfl))))
    simp [hz]
  · by_cases hn : sizeU c ≤ (c :: t).length
    · have e2 : (mkS (c :: t)).extract 0 ((sizeU c : Int)).toNat = mkS ((c :: t).take (sizeU c)) := by rw [extract_mk, mkS_toList, Int.toNat_natCast]; rfl
      have ht : (c :: t).take (sizeU c) = c :: t.take (sizeU c - 1) := by
        conv => lhs; rw [show sizeU c = (sizeU c - 1) + 1 by omega]
        rfl
      have htl : (c :: t.take (sizeU c - 1)).length = sizeU c := by rw [← ht, List.length_take]; omega
      obtain ⟨v2, h2, h3⟩ := begins_full c (t.take (sizeU c - 1)) hz htl
      rw [← ht] at h2 h3
      have hd : decR (c :: t) = if okAll (sizeU c) ((c :: t).take (sizeU c)) then some (valL (modU (sizeU c)) ((c :: t).take (sizeU c)), sizeU c) else none := by
        simp only [decR]; rw [if_neg (by omega)]
      rw [← e2] at h2
      by_cases hok : okAll (sizeU c) ((c :: t).take (sizeU c)) = true
      · rw [if_pos hok] at hd
        refine ⟨(((valL (modU (sizeU c)) ((c :: t).take (sizeU c)) : Nat) : Int), (sizeU c : Int), 0), ?_, by unfold FirstRes; rw [hd]⟩
        refine Ev.ite_pos (by omega) (Ev.ite_pos (by omega) (Ev.bind h1 (Ev.ite_pos (by simp [hz]) (Ev.ite_pos (by simp only [] ; omega) (Ev.ite_pos (by simp only []; omega) (Ev.ite_pos (by simp only []; omega) ?_))))))
        refine Ev.bind h2 (Ev.ite_pos hok (Ev.const ?_))
        rw [h3 hok]
      · rw [if_neg hok] at hd
        refine ⟨(0, 0, 3), ?_, by unfold FirstRes; rw [hd]; decide⟩
        refine Ev.ite_pos (by omega) (Ev.ite_pos (by omega) (Ev.bind h1 (Ev.ite_pos (by simp [hz]) (Ev.ite_pos (by simp only [] ; omega) (Ev.ite_pos (by simp only []; omega) (Ev.ite_pos (by simp only []; omega) ?_))))))
        exact Ev.bind h2 (Ev.ite_neg hok (Ev.const rfl))
    · have hd : decR (c :: t) = none := by simp only [decR]; rw [if_pos (.inr (by omega))]
      obtain ⟨R, h2⟩ := begins_part c t hz (by omega)
      have h1n : (decide (sizeU c ≠ 0)) = true := by simp [hz]
      by_cases hr : R.1 = true
      · refine ⟨(0, 0, 23), ?_, by unfold FirstRes; rw [hd]; decide⟩
        exact Ev.ite_pos (by omega) (Ev.ite_pos (by omega) (Ev.bind h1 (Ev.ite_pos h1n (Ev.ite_neg (by simp only [] ; omega) (Ev.bind h2 (Ev.ite_pos hr (Ev.const rfl)))))))
      · refine ⟨(0, 0, 3), ?_, by unfold FirstRes; rw [hd]; decide⟩
        exact Ev.ite_pos (by omega) (Ev.ite_pos (by omega) (Ev.bind h1 (Ev.ite_pos h1n (Ev.ite_neg (by simp only [] ; omega) (Ev.bind h2 (Ev.ite_neg hr (Ev.const rfl)))))))

def AllEnd (e : Option Nat) (p c : Int) : Prop := match e with
  | none => p = 0 ∧ c = 0
  | some q => p = (q : Int) ∧ c ≠ 0
theorem refAll (l : List UInt8) (hl : l.length ≤ 1000000) : ∀ f i : Nat, l.length - i ≤ f → i ≤ l.length → ∀ rs os : List Int, rs.length ≤ i → os.length ≤ i →
    ∃ p c : Int, Ev (fun k => bulletinref03_All.l0 k (mkS l) rs os (i : Int)) (rs ++ (runesG f i (l.drop i)).1.map (fun x => (x.2 : Int)), os ++ (runesG f i (l.drop i)).1.map (fun x => (x.1 : Int)), p, c) ∧ AllEnd (runesG f i (l.drop i)).2 p c := by
  intro f
  induction f with
  | zero =>
    intro i hf hi rs os hr ho
    refine ⟨0, 0, ?_, by unfold AllEnd runesG; exact ⟨rfl, rfl⟩⟩
    refine Ev.next ?_
    simp only [bulletinref03_All.l0, mkS_size]
    refine Ev.ite_neg (by omega) (Ev.const ?_)
    simp [runesG]
  | succ f ih =>
    intro i hf hi rs os hr ho
    by_cases hlt : i < l.length
    · have hne : l.drop i ≠ [] := by
        intro h
        have := congrArg List.length h
        rw [List.length_drop] at this
        simp at this; omega
      have e1 : (mkS l).extract ((i : Int)).toNat l.length = mkS (l.drop i) := by
        rw [Int.toNat_natCast, extract_mk, mkS_toList, List.take_of_length_le]; rw [List.length_drop]; omega
      obtain ⟨R, h1, h2⟩ := refFirst (l.drop i) hne
      rw [← e1] at h1
      cases hd : decR (l.drop i) with
      | none =>
        unfold FirstRes at h2
        rw [hd] at h2
        rw [runesG_none hne hd]
        refine ⟨(i : Int), R.2.2, ?_, ⟨rfl, h2⟩⟩
        refine Ev.next ?_
        simp only [bulletinref03_All.l0, mkS_size]
        refine Ev.ite_pos (by omega) (Ev.ite_pos (by omega) (Ev.ite_pos (by omega) (Ev.bind h1 (Ev.ite_neg h2 (Ev.const ?_)))))
        simp
      | some q =>
        obtain ⟨v, n⟩ := q
        unfold FirstRes at h2
        rw [hd] at h2
        subst h2
        obtain ⟨hp1, hp2, hp3, hp4⟩ := decR_pos hd
        rw [List.length_drop] at hp2
        rw [runesG_some hd, List.drop_drop]
        obtain ⟨p, c, h3, h4⟩ := ih (i + n) (by omega) (by omega) (rs ++ [(v : Int)]) (os ++ [(i : Int)]) (by simp; omega) (by simp; omega)
        refine ⟨p, c, ?_, h4⟩
        refine Ev.next ?_
        simp only [bulletinref03_All.l0, mkS_size]
        refine Ev.ite_pos (by omega) (Ev.ite_pos (by omega) (Ev.ite_pos (by omega) (Ev.bind h1 (Ev.ite_pos rfl (Ev.ite_pos (by omega) (Ev.ite_pos (by omega) ?_))))))
        show Ev (fun k => bulletinref03_All.l0 k (mkS l) (rs ++ [(v : Int)]) (os ++ [(i : Int)]) (wrap64 ((i : Int) + (n : Int)))) _
        rw [wrap_add i n (by omega)]
        refine h3.is ?_
        simp
    · have h0 : l.drop i = [] := List.drop_eq_nil_of_le (by omega)
      rw [h0, runesG_nil]
      refine ⟨0, 0, ?_, ⟨rfl, rfl⟩⟩
      refine Ev.next ?_
      simp only [bulletinref03_All.l0, mkS_size]
      refine Ev.ite_neg (by omega) (Ev.const ?_)
      simp
theorem refControl (v : Nat) : bulletinref03_Control.f (v : Int) = some (ctrlU v) := by
  unfold bulletinref03_Control.f ctrlU
  by_cases h1 : v ≤ 31
  · rw [if_pos (by omega)]; simp [h1]
  · rw [if_neg (by omega)]
    have h1' : decide (v ≤ 31) = false := decide_eq_false h1
    by_cases h2 : 127 ≤ v
    · rw [if_pos (by omega)]
      by_cases h3 : v ≤ 159
      · rw [if_pos (by omega)]; simp [h2, h3]
      · rw [if_neg (by omega)]
        by_cases h4 : v = 8232
        · rw [if_pos (by omega)]; simp [h4]
        · rw [if_neg (by omega)]
          by_cases h5 : v = 8233
          · subst h5; rfl
          · have : ((v : Int) == 8233) = false := by rw [beq_eq_false_iff_ne]; omega
            rw [this]; simp [h1, h3, h4, h5]
    · rw [if_neg (by omega), if_neg (by omega)]
      have : ((v : Int) == 8233) = false := by rw [beq_eq_false_iff_ne]; omega
      rw [this]
      have h4 : v ≠ 8232 := by omega
      have h5 : v ≠ 8233 := by omega
      simp [h1, h2, h4, h5]
theorem rd_map {α : Type} (g : α → Int) (xs : List α) (i : Nat) (h : i < xs.length) : rd (xs.map g) (i : Int) = g xs[i] := by
  unfold rd
  rw [Int.toNat_natCast, List.getD_eq_getElem?_getD, List.getElem?_map, List.getElem?_eq_getElem h]; rfl
theorem refBadL (xs : List (Nat × Nat)) (hx : xs.length ≤ 1000000) (p c : Int) : ∀ d i : Nat, xs.length - i = d → i ≤ xs.length →
    Ev (fun k => bulletinref15_bad.l0 k (xs.map (fun x => (x.2 : Int))) (xs.map (fun x => (x.1 : Int))) p c (i : Int)) (match (xs.drop i).find? (fun x => badV x.2) with | some x => (x.1 : Int) | none => if c = 0 then -1 else p) := by
  intro d
  induction d with
  | zero =>
    intro i hd hi
    have h0 : xs.drop i = [] := List.drop_eq_nil_of_le (by omega)
    rw [h0]
    refine Ev.next ?_
    simp only [bulletinref15_bad.l0, List.length_map]
    refine Ev.ite_neg (by omega) ?_
    show Ev (fun n => if c = 0 then some (-1 : Int) else some p) (if c = 0 then -1 else p)
    by_cases h : c = 0
    · exact Ev.rpos h (Ev.ite_pos h (Ev.const rfl))
    · exact Ev.rneg h (Ev.ite_neg h (Ev.const rfl))
  | succ d ih =>
    intro i hd hi
    have hlt : i < xs.length := by omega
    have hdr : xs.drop i = xs[i] :: xs.drop (i + 1) := List.drop_eq_getElem_cons hlt
    refine Ev.next ?_
    simp only [bulletinref15_bad.l0, List.length_map]
    refine Ev.ite_pos (by omega) (Ev.ite_pos (by omega) ?_)
    rw [rd_map (fun x : Nat × Nat => (x.2 : Int)) xs i hlt, rd_map (fun x : Nat × Nat => (x.1 : Int)) xs i hlt]
    rw [refControl, wrap_nat i (by omega), hdr, List.find?_cons]
    simp only [Option.bind_some]
    by_cases h1 : ctrlU xs[i].2 = true
    · refine Ev.ite_pos h1 ?_
      by_cases h2 : xs[i].2 = 9
      · refine Ev.ite_pos (by omega) ?_
        have : badV xs[i].2 = false := by unfold badV; simp [h2]
        rw [this]
        exact ih (i + 1) (by omega) (by omega)
      · refine Ev.ite_neg (by omega) (Ev.ite_pos (by omega) (Ev.const ?_))
        have : badV xs[i].2 = true := by unfold badV; simp [h1, h2]
        rw [this]
    · refine Ev.ite_neg h1 ?_
      have : badV xs[i].2 = false := by unfold badV; simp [h1]
      rw [this]
      exact ih (i + 1) (by omega) (by omega)
theorem runesG_len (f : Nat) : ∀ k l, (runesG f k l).1.length ≤ f := by
  induction f with
  | zero => intro k l; simp [runesG]
  | succ f ih =>
    intro k l
    by_cases h0 : l = []
    · subst h0; rw [runesG_nil]; simp
    · cases hd : decR l with
      | none => rw [runesG_none h0 hd]; simp
      | some q =>
        obtain ⟨v, n⟩ := q
        rw [runesG_some hd]
        have := ih (k + n) (l.drop n)
        simp; omega
theorem refBadF (l : List UInt8) (hl : l.length ≤ 1000000) : Ev (fun k => bulletinref15_bad.f k (mkS l)) (badU l) := by
  obtain ⟨p, c, h1, h2⟩ := refAll l hl l.length 0 (by omega) (by omega) [] [] (by simp) (by simp)
  rw [List.drop_zero] at h1 h2
  have hr : runesG l.length 0 l = runesU l := rfl
  rw [hr] at h1 h2
  simp only [List.nil_append] at h1
  unfold bulletinref15_bad.f bulletinref03_All.f
  refine Ev.bind h1 ?_
  have hx : (runesU l).1.length ≤ 1000000 := Nat.le_trans (runesG_len _ _ _) hl
  refine (refBadL (runesU l).1 hx p c _ 0 rfl (by omega)).is ?_
  rw [List.drop_zero]
  unfold badU AllEnd at *
  cases hf : (runesU l).1.find? (fun x => badV x.2) with
  | some x => rfl
  | none =>
    cases he : (runesU l).2 with
    | none => rw [he] at h2; simp [h2.2]
    | some q => rw [he] at h2; simp only []; rw [if_neg h2.2, h2.1]
end Go.Proofs.YtfeciafdioepiaaGreatDoor
set_option linter.unusedVariables false
set_option linter.unusedSimpArgs false
namespace Go.Proofs.YtfeciafdioepiaaGreatDoor
open Go.RowKit Go.Proofs Go.Proofs.YtfeciafdioepiaaGreatDoorW.PrintWords Go.Proofs.YtfeciafdioepiaaGreatDoor.PA

theorem extract_line (l : List UInt8) (i : Nat) : (mkS l).extract i (i + lineN (l.drop i)) = mkS ((l.drop i).take (lineN (l.drop i))) := by
  rw [extract_mk, mkS_toList]
  congr 2
  omega
theorem refLines (l : List UInt8) (hl : l.length ≤ 900000) : ∀ (f j k i : Nat) (acc : List ByteArray), l.length - i ≤ f → l.length + f + 1 < k → acc.length + f ≤ 2000000 →
    bulletinref15_Lines.l0 k (mkS l) acc (i : Int) = some (acc ++ (linesG f j (l.drop i)).map fun x => mkS x.2) := by
  intro f
  induction f with
  | zero =>
    intro j k i acc hf hk ha
    obtain ⟨k, rfl⟩ : ∃ m, k = m + 1 := ⟨k - 1, by omega⟩
    unfold bulletinref15_Lines.l0
    rw [if_neg (by rw [mkS_size]; omega)]
    simp [linesG]
  | succ f ih =>
    intro j k i acc hf hk ha
    obtain ⟨k, rfl⟩ : ∃ m, k = m + 1 := ⟨k - 1, by omega⟩
    unfold bulletinref15_Lines.l0
    by_cases hlt : i < l.length
    · have hne : l.drop i ≠ [] := by
        intro h
        have := congrArg List.length h
        rw [List.length_drop] at this
        simp at this; omega
      have hle := lineN_le (l.drop i)
      rw [List.length_drop] at hle
      rw [if_pos (by rw [mkS_size]; omega), endF l (by omega) k i (by omega) (by omega), linesG_cons hne]
      simp only [Option.bind_some]
      rw [if_pos (by omega), if_pos (by omega), if_pos (by rw [mkS_size]; omega), if_pos (by omega), wrap64_small (by omega) (by omega)]
      rw [show ((i + lineN (l.drop i) : Nat) : Int) + 1 = ((i + (lineN (l.drop i) + 1) : Nat) : Int) by omega]
      rw [ih (j + 1) k (i + (lineN (l.drop i) + 1)) _ (by omega) (by omega) (by simp; omega)]
      rw [show ((i : Nat) : Int).toNat = i by omega, show ((i + lineN (l.drop i) : Nat) : Int).toNat = i + lineN (l.drop i) by omega, extract_line, List.drop_drop]
      simp
    · have h1 : l.drop i = [] := List.drop_eq_nil_of_le (by omega)
      rw [if_neg (by rw [mkS_size]; omega), h1, linesG_nil]
      simp
theorem refLinesF (l : List UInt8) (hl : l.length ≤ 900000) (k : Nat) (hk : 2 * l.length + 1 < k) : bulletinref15_Lines.f k (mkS l) = some ((linesU l).map fun x => mkS x.2) := by
  have := refLines l hl l.length 0 k 0 [] (by omega) (by omega) (by simp; omega)
  simpa [bulletinref15_Lines.f, linesU] using this
end Go.Proofs.YtfeciafdioepiaaGreatDoor
set_option linter.unusedVariables false
set_option linter.unusedSimpArgs false
namespace Go.Proofs.YtfeciafdioepiaaGreatDoor
open Go.RowKit Go.Proofs Go.Proofs.YtfeciafdioepiaaGreatDoorW.PrintWords Go.Proofs.YtfeciafdioepiaaGreatDoorW.PrintMore Go.Proofs.YtfeciafdioepiaaGreatDoor.PA

/-- What a body's check answers, from a line's offset on; f: more than enough rounds. -/
def bodyG : Nat → Nat → List UInt8 → Int × Int
  | 0, _, _ => (0, 0)
  | f + 1, i, l => if l = [] then (0, 0) else if lineN l = l.length then (((i + l.length : Nat) : Int), 4)
    else if 998 < lineN l then (((i + 998 : Nat) : Int), 5)
    else if 0 ≤ badU (l.take (lineN l)) then ((i : Int) + badU (l.take (lineN l)), 6)
    else bodyG f (i + (lineN l + 1)) (l.drop (lineN l + 1))
def bodyU (l : List UInt8) : Int × Int := bodyG l.length 0 l
theorem bodyG_nil (f i : Nat) : bodyG f i [] = (0, 0) := by cases f <;> simp [bodyG]
theorem runesG_off (f : Nat) : ∀ k l, (∀ x ∈ (runesG f k l).1, x.1 ≤ k + l.length) ∧ ∀ p, (runesG f k l).2 = some p → p ≤ k + l.length := by
  induction f with
  | zero => intro k l; simp [runesG]
  | succ f ih =>
    intro k l
    by_cases h0 : l = []
    · subst h0; rw [runesG_nil]; simp
    · cases hd : decR l with
      | none =>
        rw [runesG_none h0 hd]
        refine ⟨by simp, fun p hp => ?_⟩
        injection hp with hp; omega
      | some q =>
        obtain ⟨v, n⟩ := q
        rw [runesG_some hd]
        obtain ⟨h1, h2⟩ := ih (k + n) (l.drop n)
        have hn := (decR_pos hd).2.1
        rw [List.length_drop] at h1 h2
        refine ⟨fun x hx => ?_, fun p hp => ?_⟩
        · rcases List.mem_cons.1 hx with rfl | hx
          · simp only []; omega
          · have := h1 x hx; omega
        · have := h2 p hp; omega
theorem badU_le (l : List UInt8) : -1 ≤ badU l ∧ badU l ≤ (l.length : Int) := by
  obtain ⟨h1, h2⟩ := runesG_off l.length 0 l
  have hr : runesG l.length 0 l = runesU l := rfl
  rw [hr] at h1 h2
  unfold badU
  cases hf : (runesU l).1.find? (fun x => badV x.2) with
  | some x =>
    have := h1 x (List.mem_of_find?_eq_some hf)
    simp only []; omega
  | none =>
    cases he : (runesU l).2 with
    | none => simp only []; omega
    | some q => have := h2 q he; simp only []; omega
theorem drop_ne {l : List UInt8} {i : Nat} (h : i < l.length) : l.drop i ≠ [] := by
  intro h1
  have := congrArg List.length h1
  rw [List.length_drop] at this
  simp at this; omega
theorem checkBody_loop (l : List UInt8) (hl : l.length ≤ 900000) : ∀ f i : Nat, l.length - i ≤ f → i ≤ l.length → Ev (fun k => PC.article_CheckBody.l0 k (mkS l) (i : Int)) (bodyG f i (l.drop i)) := by
  intro f
  induction f with
  | zero =>
    intro i hf hi
    refine Ev.next ?_
    simp only [PC.article_CheckBody.l0, mkS_size]
    exact Ev.ite_neg (by omega) (Ev.const rfl)
  | succ f ih =>
    intro i hf hi
    by_cases hlt : i < l.length
    · have hne := drop_ne hlt
      have e1 : (mkS l).extract ((i : Int)).toNat l.length = mkS (l.drop i) := by
        rw [Int.toNat_natCast, extract_mk, mkS_toList, List.take_of_length_le]; rw [List.length_drop]; omega
      have hld : (l.drop i).length = l.length - i := List.length_drop ..
      have hln := lineN_le (l.drop i)
      have hcut : GV.Cut.f (mkS (l.drop i)) ⟨#[10]⟩ = some (mkS ((l.drop i).take (lineN (l.drop i))), mkS ((l.drop i).drop (lineN (l.drop i) + 1)), hasNl (l.drop i)) := by
        unfold GV.Cut.f
        rw [if_pos ⟨rfl, by rw [mkS_size]; omega⟩, mkS_toList]
      refine Ev.next ?_
      simp only [PC.article_CheckBody.l0, mkS_size]
      rw [e1, hcut]
      refine Ev.ite_pos (by omega) (Ev.ite_pos (by omega) (Ev.ite_pos (by omega) ?_))
      simp only [Option.bind_some, mkS_size]
      unfold bodyG
      rw [if_neg hne]
      have htk : ((l.drop i).take (lineN (l.drop i))).length = lineN (l.drop i) := by rw [List.length_take]; omega
      rw [htk]
      by_cases h1 : lineN (l.drop i) = (l.drop i).length
      · rw [if_pos h1]
        refine Ev.ite_neg (by unfold hasNl; simp; omega) (Ev.const ?_)
        rw [show i + (l.drop i).length = l.length by omega]
      · rw [if_neg h1]
        refine Ev.ite_pos (by unfold hasNl; simp; omega) ?_
        by_cases h2 : 998 < lineN (l.drop i)
        · rw [if_pos h2]
          refine Ev.ite_pos (by omega) (Ev.const ?_)
          rw [show (998 : Int) = ((998 : Nat) : Int) from rfl, wrap_add i 998 (by omega)]
        · rw [if_neg h2]
          refine Ev.ite_neg (by omega) ?_
          have hbad : GV.badByte.f (mkS ((l.drop i).take (lineN (l.drop i)))) = some (badU ((l.drop i).take (lineN (l.drop i)))) := by
            unfold GV.badByte.f
            rw [if_pos (by rw [mkS_size]; omega), mkS_toList]
          rw [hbad]
          simp only [Option.bind_some]
          have hb := badU_le ((l.drop i).take (lineN (l.drop i)))
          rw [htk] at hb
          by_cases h3 : 0 ≤ badU ((l.drop i).take (lineN (l.drop i)))
          · rw [if_pos h3]
            refine Ev.ite_pos h3 (Ev.const ?_)
            rw [wrap64_small (by omega) (by omega)]
          · rw [if_neg h3]
            refine Ev.ite_neg h3 ?_
            have hw : wrap64 ((i : Int) + wrap64 ((lineN (l.drop i) : Int) + 1)) = ((i + (lineN (l.drop i) + 1) : Nat) : Int) := by
              rw [wrap_nat _ (by omega), wrap_add _ _ (by omega)]
            rw [hw, List.drop_drop]
            exact ih _ (by omega) (by omega)
    · rw [List.drop_eq_nil_of_le (by omega), bodyG_nil]
      refine Ev.next ?_
      simp only [PC.article_CheckBody.l0, mkS_size]
      exact Ev.ite_neg (by omega) (Ev.const rfl)
theorem checkBodyF (l : List UInt8) (hl : l.length ≤ 900000) : Ev (fun k => PC.article_CheckBody.f k (mkS l)) (bodyU l) := by
  have := checkBody_loop l hl l.length 0 (by omega) (by omega)
  rw [List.drop_zero] at this
  exact this
theorem refEndE (l : List UInt8) (hl : l.length ≤ 1000000) (i : Nat) (hi : i ≤ l.length) : Ev (fun k => bulletinref15_end.f k (mkS l) (i : Int)) ((i + lineN (l.drop i) : Nat) : Int) :=
  ⟨l.length - i + 1, fun k hk => endF l hl k i (by omega) hi⟩
theorem refBody_loop (l : List UInt8) (hl : l.length ≤ 900000) : ∀ f i : Nat, l.length - i ≤ f → i ≤ l.length → Ev (fun k => bulletinref15_Body.l0 k (mkS l) (i : Int)) (bodyG f i (l.drop i)) := by
  intro f
  induction f with
  | zero =>
    intro i hf hi
    refine Ev.next ?_
    simp only [bulletinref15_Body.l0, mkS_size]
    exact Ev.ite_neg (by omega) (Ev.const rfl)
  | succ f ih =>
    intro i hf hi
    by_cases hlt : i < l.length
    · have hne := drop_ne hlt
      have hld : (l.drop i).length = l.length - i := List.length_drop ..
      have hln := lineN_le (l.drop i)
      have e1 : (mkS l).extract ((i : Int)).toNat (((i + lineN (l.drop i) : Nat) : Int)).toNat = mkS ((l.drop i).take (lineN (l.drop i))) := by
        rw [Int.toNat_natCast, Int.toNat_natCast]; exact extract_line l i
      refine Ev.next ?_
      simp only [bulletinref15_Body.l0, mkS_size]
      refine Ev.ite_pos (by omega) (Ev.bind (refEndE l (by omega) i hi) ?_)
      unfold bodyG
      rw [if_neg hne]
      have htk : ((l.drop i).take (lineN (l.drop i))).length = lineN (l.drop i) := by rw [List.length_take]; omega
      by_cases h1 : lineN (l.drop i) = (l.drop i).length
      · rw [if_pos h1]
        refine Ev.ite_pos (by omega) (Ev.const ?_)
        rw [show i + (l.drop i).length = l.length by omega]
      · rw [if_neg h1]
        refine Ev.ite_neg (by omega) ?_
        have hw1 : wrap64 (((i + lineN (l.drop i) : Nat) : Int) - (i : Int)) = (lineN (l.drop i) : Int) := by
          rw [show ((i + lineN (l.drop i) : Nat) : Int) - (i : Int) = (lineN (l.drop i) : Int) by omega, wrap64_small (by omega) (by omega)]
        rw [hw1]
        by_cases h2 : 998 < lineN (l.drop i)
        · rw [if_pos h2]
          refine Ev.ite_pos (by omega) (Ev.const ?_)
          rw [show (998 : Int) = ((998 : Nat) : Int) from rfl, wrap_add i 998 (by omega)]
        · rw [if_neg h2]
          refine Ev.ite_neg (by omega) (Ev.ite_pos (by omega) (Ev.ite_pos (by omega) (Ev.ite_pos (by omega) ?_)))
          rw [e1]
          refine Ev.bind (refBadF _ (by omega)) ?_
          have hb := badU_le ((l.drop i).take (lineN (l.drop i)))
          rw [htk] at hb
          by_cases h3 : 0 ≤ badU ((l.drop i).take (lineN (l.drop i)))
          · rw [if_pos h3]
            refine Ev.ite_pos h3 (Ev.const ?_)
            rw [wrap64_small (by omega) (by omega)]
          · rw [if_neg h3]
            refine Ev.ite_neg h3 ?_
            rw [wrap_nat _ (by omega), List.drop_drop]
            exact ih _ (by omega) (by omega)
    · rw [List.drop_eq_nil_of_le (by omega), bodyG_nil]
      refine Ev.next ?_
      simp only [bulletinref15_Body.l0, mkS_size]
      exact Ev.ite_neg (by omega) (Ev.const rfl)
theorem refBodyF (l : List UInt8) (hl : l.length ≤ 900000) : Ev (fun k => bulletinref15_Body.f k (mkS l)) (bodyU l) := by
  have := refBody_loop l hl l.length 0 (by omega) (by omega)
  rw [List.drop_zero] at this
  exact this
/-- A text that is cut. -/
theorem shortF (l : List UInt8) (n : Nat) (hn : n ≤ 1000000) : bulletinlaw15_short.f (mkS l) (n : Int) = some (mkS (l.take n)) := by
  unfold bulletinlaw15_short.f
  rw [mkS_size, mn_nat l.length n, if_pos (by omega), if_pos (by omega), Int.toNat_natCast, extract_mk, mkS_toList, List.drop_zero, Nat.sub_zero]
  congr 2
  rw [Nat.min_comm, ← List.take_take, List.take_length]
end Go.Proofs.YtfeciafdioepiaaGreatDoor
set_option linter.unusedVariables false
set_option linter.unusedSimpArgs false
namespace Go.Proofs.YtfeciafdioepiaaGreatDoor
open Go.RowKit Go.Proofs Go.Proofs.YtfeciafdioepiaaGreatDoorW.PrintWords Go.Proofs.YtfeciafdioepiaaGreatDoorW.PrintMore Go.Proofs.YtfeciafdioepiaaGreatDoor.PA

/-! ### lines -/
theorem linesG_small (f : Nat) : ∀ (i : Nat) (l : List UInt8), (linesG f i l).length ≤ f ∧ ∀ x ∈ linesG f i l, x.2.length ≤ l.length ∧ ∀ c ∈ x.2, notNl c = true := by
  induction f with
  | zero => intro i l; simp [linesG]
  | succ f ih =>
    intro i l
    by_cases h : l = []
    · subst h; rw [linesG_nil]; simp
    · rw [linesG_cons h]
      obtain ⟨h1, h2⟩ := ih (i + 1) (l.drop (lineN l + 1))
      refine ⟨by simp; omega, fun x hx => ?_⟩
      rcases List.mem_cons.1 hx with rfl | hx
      · refine ⟨by simp only [List.length_take]; omega, fun c hc => ?_⟩
        have hle := lineN_le l
        have hs : spanL notNl (l.take (lineN l)) = (l.take (lineN l)).length := by
          have : ∀ (l : List UInt8) (p : UInt8 → Bool), spanL p (l.take (spanL p l)) = (l.take (spanL p l)).length := by
            intro l p
            induction l with
            | nil => rfl
            | cons c l ih =>
              by_cases hc : p c = true
              · simp [spanL, hc, ih]
              · simp [spanL, hc]
          exact this l notNl
        have hm : ∀ (p : UInt8 → Bool) (l : List UInt8), spanL p l = l.length → ∀ c ∈ l, p c = true := by
          intro p l
          induction l with
          | nil => intro _ c hc; simp at hc
          | cons d l ih =>
            intro h c hc
            by_cases hd : p d = true
            · simp [spanL, hd] at h
              rcases List.mem_cons.1 hc with rfl | hc
              · exact hd
              · exact ih h c hc
            · simp [spanL, hd] at h
        exact hm notNl _ hs c hc
      · obtain ⟨h3, h4⟩ := h2 x hx
        refine ⟨?_, h4⟩
        rw [List.length_drop] at h3; omega
theorem lineN_app (t r : List UInt8) (h : ∀ c ∈ t, notNl c = true) : lineN (t ++ 10 :: r) = t.length := by
  unfold lineN
  induction t with
  | nil => simp [spanL, notNl]
  | cons c t ih =>
    have hc := h c (by simp)
    have := ih (fun d hd => h d (by simp [hd]))
    simp [spanL, hc, this]
/-- Lines joined, cut again. -/
theorem linesG_join : ∀ (xs : List (List UInt8)) (f i : Nat), (∀ x ∈ xs, ∀ c ∈ x, notNl c = true) → (xs.flatMap (fun x => x ++ [10])).length ≤ f → (linesG f i (xs.flatMap (fun x => x ++ [10]))).map (·.2) = xs
  | [], f, i, _, _ => by simp [linesG_nil]
  | x :: xs, f, i, h, hf => by
    have e : (x :: xs).flatMap (fun x => x ++ [10]) = x ++ 10 :: xs.flatMap (fun x => x ++ [10]) := by simp
    rw [e] at hf ⊢
    have hln := lineN_app x (xs.flatMap (fun x => x ++ [10])) (h x (by simp))
    obtain ⟨f, rfl⟩ : ∃ g, f = g + 1 := ⟨f - 1, by simp at hf; omega⟩
    rw [linesG_cons (by simp), hln]
    have hd : (x ++ 10 :: xs.flatMap (fun x => x ++ [10])).drop (x.length + 1) = xs.flatMap (fun x => x ++ [10]) := by
      rw [show x.length + 1 = x.length + 1 from rfl, ← List.drop_drop, List.drop_left]; rfl
    rw [hd, List.take_left, List.map_cons, linesG_join xs f (i + 1) (fun y hy => h y (by simp [hy])) (by simp at hf ⊢; omega)]
theorem rdOf_lines (xs : List (Nat × List UInt8)) (i : Nat) (h : i < xs.length) : rdOf ByteArray.empty (xs.map fun x => mkS x.2) (i : Int) = mkS xs[i].2 := by
  unfold rdOf
  rw [Int.toNat_natCast, List.getD_eq_getElem?_getD, List.getElem?_map, List.getElem?_eq_getElem h]; rfl
theorem refLevel (k : Nat) (t : List UInt8) (h : t.length ≤ 1000000) : bulletinref15_Level.f k (mkS t) = some ((markN t : Int), mkS (restL t)) := by
  unfold bulletinref15_Level.f
  rw [if_pos (by rw [mkS_size]; omega), mkS_toList]
theorem refLevelE (t : List UInt8) (h : t.length ≤ 1000000) : Ev (fun k => bulletinref15_Level.f k (mkS t)) ((markN t : Int), mkS (restL t)) := ⟨0, fun k _ => refLevel k t h⟩

/-! ### Quote -/
theorem quoteF (l : List UInt8) (hl : l.length ≤ 900000) : Ev (fun k => GV.Quote.f k (mkS l)) (if (bodyU l).2 ≠ 0 then (⟨#[]⟩, (bodyU l).2) else quoteR (linesU l)) := by
  unfold GV.Quote.f
  refine Ev.bind (checkBodyF l hl) ?_
  rw [mkS_toList, mkS_size]
  by_cases h : (bodyU l).2 = 0
  · exact Ev.rneg (by simpa using h) (Ev.ite_neg (by simpa using h) (Ev.ite_pos (by omega) (Ev.const rfl)))
  · exact Ev.rpos h (Ev.ite_pos h (Ev.const rfl))

/-! ### Strip -/
theorem refStripL (level : Int) (xs : List (Nat × List UInt8)) (hn : xs.length ≤ 1000000) (hx : ∀ x ∈ xs, x.2.length ≤ 900000) : ∀ d i : Nat, xs.length - i = d → i ≤ xs.length → ∀ out : List UInt8, out.length ≤ 1000000 * i →
    Ev (fun k => bulletinref15_Strip.l0 k level (mkS out) (xs.map fun x => mkS x.2) (i : Int)) (mkS (out ++ stripL level (xs.drop i)), 0) := by
  intro d
  induction d with
  | zero =>
    intro i hd hi out ho
    refine Ev.next ?_
    simp only [bulletinref15_Strip.l0, List.length_map, mkS_size]
    refine Ev.ite_neg (by omega) (Ev.const ?_)
    rw [List.drop_eq_nil_of_le (by omega)]
    simp [stripL]
  | succ d ih =>
    intro i hd hi out ho
    have hlt : i < xs.length := by omega
    have hsm := hx xs[i] (List.getElem_mem hlt)
    refine Ev.next ?_
    simp only [bulletinref15_Strip.l0, List.length_map]
    have e3 : ∀ t : List UInt8, mkS t ++ (⟨#[10]⟩ : ByteArray) = mkS (t ++ [10]) := fun t => mkS_append t [10]
    rw [rdOf_lines xs i hlt, List.drop_eq_getElem_cons hlt, e3, mkS_append, wrap_nat i (by omega)]
    refine Ev.ite_pos (by omega) (Ev.ite_pos (by omega) (Ev.bind (refLevelE _ (by omega)) ?_))
    simp only [mkS_size]
    have hst : stripL level (xs[i] :: xs.drop (i + 1)) = (if (markN xs[i].2 : Int) < level then xs[i].2 ++ [10] else []) ++ stripL level (xs.drop (i + 1)) := rfl
    rw [hst]
    by_cases h : (markN xs[i].2 : Int) < level
    · rw [if_pos h]
      refine Ev.ite_pos h (Ev.ite_pos (by omega) (Ev.ite_pos (by simp; omega) ?_))
      have hh := ih (i + 1) (by omega) (by omega) (out ++ (xs[i].2 ++ [10])) (by simp only [List.length_append, List.length_cons, List.length_nil]; omega)
      have e : out ++ (xs[i].2 ++ [10]) ++ stripL level (xs.drop (i + 1)) = out ++ (xs[i].2 ++ [10] ++ stripL level (xs.drop (i + 1))) := List.append_assoc ..
      rw [e] at hh
      exact hh
    · rw [if_neg h, List.nil_append]
      exact Ev.ite_neg h (ih (i + 1) (by omega) (by omega) _ (by omega))
def stripR (l : List UInt8) (level : Int) : ByteArray × Int := if level < 1 then (⟨#[]⟩, 2) else if (bodyU l).2 ≠ 0 then (⟨#[]⟩, (bodyU l).2) else (mkS (stripL level (linesU l)), 0)
theorem refStripF (l : List UInt8) (hl : l.length ≤ 900000) (level : Int) : Ev (fun k => bulletinref15_Strip.f k (mkS l) level) (stripR l level) := by
  unfold bulletinref15_Strip.f stripR
  by_cases h0 : level < 1
  · rw [if_pos h0]; exact Ev.ite_pos h0 (Ev.const rfl)
  · rw [if_neg h0]
    refine Ev.ite_neg h0 (Ev.bind (refBodyF l hl) ?_)
    by_cases h : (bodyU l).2 = 0
    · rw [if_neg (by simpa using h)]
      have hs := linesG_small l.length 0 l
      refine Ev.ite_pos h (Ev.bind ⟨2 * l.length + 2, fun k hk => refLinesF l hl k (by omega)⟩ ?_)
      have := refStripL level (linesU l) (Nat.le_trans hs.1 (by omega)) (fun x hx => Nat.le_trans (hs.2 x hx).1 hl) _ 0 rfl (by omega) [] (by simp)
      exact this
    · rw [if_pos h]
      exact Ev.ite_neg h (Ev.const rfl)
theorem stripF (l : List UInt8) (hl : l.length ≤ 900000) (level : Int) : Ev (fun k => GV.Strip.f k (mkS l) level) (stripR l level) := by
  unfold GV.Strip.f stripR
  by_cases h0 : level < 1
  · rw [if_pos h0]; exact Ev.ite_pos h0 (Ev.const rfl)
  · rw [if_neg h0]
    refine Ev.ite_neg h0 (Ev.bind (checkBodyF l hl) ?_)
    rw [mkS_toList, mkS_size]
    by_cases h : (bodyU l).2 = 0
    · exact Ev.rneg (by simpa using h) (Ev.ite_neg (by simpa using h) (Ev.ite_pos (by omega) (Ev.const rfl)))
    · exact Ev.rpos h (Ev.ite_pos h (Ev.const rfl))
/-! ### levels -/
theorem markN_cons (c : UInt8) (t : List UInt8) : markN (c :: t) = if c = 62 then markN t + 1 else 0 := by
  unfold markN
  by_cases h : c = 62
  · rw [if_pos h]; simp [spanL, isMark, h]
  · rw [if_neg h]; simp [spanL, isMark, h]
theorem quote_level (t : List UInt8) : markN (quoteL t) = markN t + 1 ∧ restL (quoteL t) = restL t := by
  unfold quoteL
  by_cases h : t = [] ∨ 0 < markN t
  · rw [if_pos h]
    have hm := markN_cons 62 t
    rw [if_pos rfl] at hm
    refine ⟨hm, ?_⟩
    unfold restL
    rw [hm, if_neg (by omega), List.drop_succ_cons]
    rcases h with rfl | h
    · rfl
    · rw [if_neg (by omega : ¬ markN t = 0)]
  · rw [if_neg h]
    have h0 : markN t = 0 := by omega
    have hm := markN_cons 62 (32 :: t)
    have hm2 := markN_cons 32 t
    rw [if_pos rfl] at hm
    rw [if_neg (by decide)] at hm2
    rw [hm2] at hm
    refine ⟨by omega, ?_⟩
    unfold restL
    rw [hm, h0, if_neg (by omega)]
    simp
theorem quoteL_nl (t : List UInt8) (h : ∀ c ∈ t, notNl c = true) : ∀ c ∈ quoteL t, notNl c = true := by
  intro c hc
  unfold quoteL at hc
  split at hc
  · rcases List.mem_cons.1 hc with rfl | hc
    · decide
    · exact h c hc
  · rcases List.mem_cons.1 hc with rfl | hc
    · decide
    · rcases List.mem_cons.1 hc with rfl | hc
      · decide
      · exact h c hc
theorem quoteAll_flat (xs : List (Nat × List UInt8)) : quoteAll xs = (xs.map fun x => quoteL x.2).flatMap (fun x => x ++ [10]) := by
  unfold quoteAll
  rw [List.flatMap_map]
theorem quoteAll_lines (l : List UInt8) : (linesU (quoteAll (linesU l))).map (·.2) = (linesU l).map fun x => quoteL x.2 := by
  rw [quoteAll_flat]
  refine linesG_join _ _ 0 (fun x hx => ?_) (Nat.le_refl _)
  obtain ⟨y, hy, rfl⟩ := List.mem_map.1 hx
  exact quoteL_nl _ ((linesG_small l.length 0 l).2 y hy).2
end Go.Proofs.YtfeciafdioepiaaGreatDoor
set_option linter.unusedVariables false
set_option linter.unusedSimpArgs false
namespace Go.Proofs.YtfeciafdioepiaaGreatDoor
open Go.RowKit Go.Proofs Go.Proofs.YtfeciafdioepiaaGreatDoorW.PrintWords Go.Proofs.YtfeciafdioepiaaGreatDoorW.PrintMore Go.Proofs.YtfeciafdioepiaaGreatDoor.PA

/-- A line that has nothing that is not permitted. -/
def goodU : Nat → List UInt8 → Bool
  | 0, l => l.isEmpty
  | f + 1, l => if l = [] then true else match decR l with
    | none => false
    | some (v, n) => !badV v && goodU f (l.drop n)
theorem goodU_nil (f : Nat) : goodU f [] = true := by cases f <;> simp [goodU]
theorem goodU_runes (f : Nat) : ∀ (k : Nat) (l : List UInt8), l.length ≤ f → (goodU f l = true ↔ ((runesG f k l).1.find? (fun x => badV x.2) = none ∧ (runesG f k l).2 = none)) := by
  induction f with
  | zero =>
    intro k l hl
    have : l = [] := List.length_eq_zero_iff.1 (by omega)
    subst this
    simp [goodU, runesG]
  | succ f ih =>
    intro k l hl
    by_cases h0 : l = []
    · subst h0; rw [goodU_nil, runesG_nil]; simp
    · cases hd : decR l with
      | none =>
        rw [runesG_none h0 hd]
        unfold goodU
        rw [if_neg h0, hd]; simp
      | some q =>
        obtain ⟨v, n⟩ := q
        have hp := decR_pos hd
        rw [runesG_some hd]
        unfold goodU
        rw [if_neg h0, hd]
        have := ih (k + n) (l.drop n) (by rw [List.length_drop]; omega)
        simp only [List.find?_cons]
        cases hb : badV v
        · simp [this]
        · simp
theorem badU_good (l : List UInt8) : badU l < 0 ↔ goodU l.length l = true := by
  rw [goodU_runes l.length 0 l (Nat.le_refl _)]
  have hr : runesG l.length 0 l = runesU l := rfl
  rw [hr]
  unfold badU
  cases hf : (runesU l).1.find? (fun x => badV x.2) with
  | some x => simp
  | none =>
    cases he : (runesU l).2 with
    | none => simp
    | some q => simp
theorem good_cons (c : UInt8) (t : List UInt8) (hc : sizeU c = 1) (hv : badV (c.toNat % 128) = false) (hok : okVal 1 (c.toNat % 128) = true) (h : badU t < 0) : badU (c :: t) < 0 := by
  rw [badU_good] at h ⊢
  have hd : decR (c :: t) = some (c.toNat % 128, 1) := by
    simp only [decR]
    rw [hc, if_neg (by simp)]
    have e : (c :: t).take 1 = [c] := rfl
    rw [e]
    have ho : okAll 1 [c] = true := by
      unfold okAll
      show (true && okVal 1 (c.toNat % 128)) = true
      rw [hok]; rfl
    rw [if_pos ho]; rfl
  show goodU (t.length + 1) (c :: t) = true
  unfold goodU
  rw [if_neg (by simp), hd]
  simp only [hv]
  exact h
theorem good_quote (t : List UInt8) (h : badU t < 0) : badU (quoteL t) < 0 := by
  unfold quoteL
  split
  · exact good_cons 62 t (by decide) (by decide) (by decide) h
  · exact good_cons 62 (32 :: t) (by decide) (by decide) (by decide) (good_cons 32 t (by decide) (by decide) (by decide) h)
/-- The lines of a body that is valid. -/
theorem body_lines (f : Nat) : ∀ (i j : Nat) (l : List UInt8), (bodyG f i l).2 = 0 → ∀ x ∈ linesG f j l, badU x.2 < 0 := by
  induction f with
  | zero => intro i j l h x hx; simp [linesG] at hx
  | succ f ih =>
    intro i j l h x hx
    by_cases h0 : l = []
    · subst h0; rw [linesG_nil] at hx; simp at hx
    · rw [linesG_cons h0] at hx
      unfold bodyG at h
      rw [if_neg h0] at h
      split at h
      · simp at h
      · split at h
        · simp at h
        · split at h
          · simp at h
          · rename_i h3
            rcases List.mem_cons.1 hx with rfl | hx
            · simp only []; omega
            · exact ih _ _ _ h x hx
theorem body_join : ∀ (xs : List (List UInt8)) (f i : Nat), (∀ x ∈ xs, (∀ c ∈ x, notNl c = true) ∧ badU x < 0 ∧ x.length ≤ 998) → (xs.flatMap (fun x => x ++ [10])).length ≤ f → bodyG f i (xs.flatMap (fun x => x ++ [10])) = (0, 0)
  | [], f, i, _, _ => by simp [bodyG_nil]
  | x :: xs, f, i, h, hf => by
    have e : (x :: xs).flatMap (fun x => x ++ [10]) = x ++ 10 :: xs.flatMap (fun x => x ++ [10]) := by simp
    rw [e] at hf ⊢
    obtain ⟨h1, h2, h3⟩ := h x (by simp)
    have hln := lineN_app x (xs.flatMap (fun x => x ++ [10])) h1
    obtain ⟨f, rfl⟩ : ∃ g, f = g + 1 := ⟨f - 1, by simp at hf; omega⟩
    have hd : (x ++ 10 :: xs.flatMap (fun x => x ++ [10])).drop (x.length + 1) = xs.flatMap (fun x => x ++ [10]) := by
      rw [← List.drop_drop, List.drop_left]; rfl
    unfold bodyG
    rw [hln, if_neg (by simp), if_neg (by simp), if_neg (by omega), List.take_left, if_neg (by omega), hd]
    exact body_join xs f _ (fun y hy => h y (by simp [hy])) (by simp at hf ⊢; omega)
theorem quote_body (l : List UInt8) (h : (bodyU l).2 = 0) (hq : ¬ (linesU l).any longQ = true) : bodyU (quoteAll (linesU l)) = (0, 0) := by
  unfold bodyU
  rw [quoteAll_flat]
  refine body_join _ _ 0 (fun x hx => ?_) (Nat.le_refl _)
  obtain ⟨y, hy, rfl⟩ := List.mem_map.1 hx
  refine ⟨quoteL_nl _ ((linesG_small l.length 0 l).2 y hy).2, good_quote _ (body_lines l.length 0 0 l h y hy), ?_⟩
  have : ¬ longQ y = true := fun hl => hq (List.any_eq_true.2 ⟨y, hy, hl⟩)
  unfold longQ at this
  simpa using this
theorem strip_quoted (l : List UInt8) : stripL 1 (linesU (quoteAll (linesU l))) = [] := by
  have h := quoteAll_lines l
  have key : ∀ xs : List (Nat × List UInt8), (∀ x ∈ xs.map (·.2), 1 ≤ markN x) → stripL 1 xs = [] := by
    intro xs
    induction xs with
    | nil => intro _; rfl
    | cons x r ih =>
      intro hx
      have h1 := hx x.2 (by simp)
      have h2 := ih (fun y hy => hx y (by rw [List.map_cons]; exact List.mem_cons_of_mem _ hy))
      show (if (markN x.2 : Int) < 1 then x.2 ++ [10] else []) ++ stripL 1 r = []
      rw [if_neg (by omega), h2]; rfl
  refine key _ (fun x hx => ?_)
  rw [h] at hx
  obtain ⟨y, hy, rfl⟩ := List.mem_map.1 hx
  rw [(quote_level y.2).1]; omega
theorem Strips_pure : PL.bulletinlaw15_ArticleStrips.Pure := by
  intro a level ha hlv
  obtain ⟨l, rfl⟩ : ∃ l, a = mkS l := ⟨a.data.toList, (mkS_data a).symm⟩
  refine Ev.at_ ?_
  unfold PL.bulletinlaw15_ArticleStrips.f
  have hs := shortF l 3000 (by omega)
  rw [show ((3000 : Nat) : Int) = 3000 from rfl] at hs
  rw [hs]
  have hlen : (l.take 3000).length ≤ 3000 := by rw [List.length_take]; omega
  generalize l.take 3000 = t at *
  simp only [Option.bind_some]
  refine Ev.bind (stripF t (by omega) level) (Ev.bind (refStripF t (by omega) level) (Ev.bind (a := true) (Ev.const rfl) (Ev.ite_pos rfl (Ev.ite_pos rfl ?_))))
  refine Ev.next ?_
  simp only [PL.bulletinlaw15_ArticleStrips.j0]
  refine Ev.ite_neg (by simp) (Ev.bind (quoteF t (by omega)) ?_)
  have bad : ∀ (c : Int), c ≠ 0 → Ev (fun k => (GV.Strip.f k (⟨#[]⟩ : ByteArray) 1).bind fun bt185 => (if c = 0 then (if bt185.1.toList = ([] : List UInt8) then (some (bt185.2 == 0)) else (some false)) else (some true))) true := by
    intro c hc
    refine Ev.bind (stripF [] (by simp) 1) ?_
    exact Ev.ite_neg hc (Ev.const rfl)
  have hq3 := quoteAll_len (linesU t)
  have hc3 : costL (linesU t) ≤ t.length + 1 := costL_lines t.length 0 t
  by_cases hb : (bodyU t).2 = 0
  · rw [if_neg (by simpa using hb)]
    unfold quoteR
    by_cases h1 : (linesU t).any longQ = true
    · rw [if_pos h1]; exact bad 5 (by decide)
    · rw [if_neg h1]
      by_cases h2 : 65536 < (quoteAll (linesU t)).length
      · rw [if_pos h2]; exact bad 5 (by decide)
      · rw [if_neg h2]
        refine Ev.bind (stripF (quoteAll (linesU t)) (by omega) 1) ?_
        have e : stripR (quoteAll (linesU t)) 1 = (mkS [], 0) := by
          unfold stripR
          rw [if_neg (by decide), quote_body t hb h1, strip_quoted]
          rfl
        rw [e]
        exact Ev.ite_pos rfl (Ev.ite_pos (toList_mk []) (Ev.const rfl))
  · rw [if_pos hb]; exact bad _ hb
end Go.Proofs.YtfeciafdioepiaaGreatDoor
namespace Go.Proofs.YtfeciafdioepiaaGreatDoor.Pure
theorem ArticleStrips : Go.Proofs.YtfeciafdioepiaaGreatDoor.PL.bulletinlaw15_ArticleStrips.Pure := Go.Proofs.YtfeciafdioepiaaGreatDoor.Strips_pure
end Go.Proofs.YtfeciafdioepiaaGreatDoor.Pure
namespace Go.Proofs.YtfeciafdioepiaaGreatDoor.articleStrips
open Go.ChangeShapes Go.WideShapes Go.ChangeAt Go.RowKit
open Go.ChangeMaps (open_string shut_string)
set_option linter.unusedVariables false
theorem own : ownKnob Tryz.prog.godebug = none := by kernel_rfl
set_option maxRecDepth 100000 in
theorem lifted (os : Os) (started : os.Started) (H : Type) (enc : TypeId × Value → H) :
    ReturnsInHanded {} Tryz.checked os 8 .any (fun w args => (Rows.articleStripsSpec.pre enc Tryz.prog Tryz.f8 Rows.articleStripsRow.domain false w args ∧ laidMetH Tryz.prog Rows.articleStripsRow.laid w) ∧ sizedMet enc Tryz.prog Tryz.f8 (OpenSpec.ofChange Rows.articleStripsSpec) false w args) (Rows.articleStripsSpec.post enc Tryz.prog Tryz.f8 false true false false) := by
  refine handed_laid own started (by kernel_rfl) Tryz.func8
    (ChangeSpec.witness_shaped (enc := enc) (C := Tryz.checked) (os := os) (X := fun w _ => laidMetH Tryz.prog Rows.articleStripsRow.laid w) false (World.laidAll Tryz.prog os Rows.articleStripsRow.laid) #[.string ByteArray.empty, .int .i64 0] 8 (World.laidAll_os _ _ _)
      (World.shaped_of_ZipB (by kernel_rfl) (by kernel_rfl)) (by kernel_rfl) (by kernel_rfl) (by kernel_rfl)
      (by rw [MakeChecks.laidMetH_plain _ _ _ (by kernel_rfl)]; exact laidMet_laidAll _ (by kernel_rfl) (by kernel_rfl))) ?_
  intro W base args ds gs before hval0 hW hcnd hsz0 hL hsh _
  have hsz : (DataW.weightsEach Tryz.prog (Tryz.f8.params.toList ++ Rows.articleStripsSpec.plain.varTypes Tryz.prog) (ds ++ gs)).all (· ≤ reachBytes) = true := hsz0
  have hval : ∀ (j : Nat) t v, Tryz.f8.params[j]? = some t → args[j]? = some v → Value.okWide Tryz.prog W .any base t v := hval0
  have hW' := hW
  obtain ⟨p, q, hA0, hV, rfl, hfz, hnd⟩ := hW
  have hA : DataW.TrodAll enc Tryz.prog W 0 (fun _ => true) true Tryz.f8.params.toList args.toList ds p := hA0
  rw [Tryz.params8] at hA hval hsz
  obtain ⟨v0, vs0, d0, ds0, p0, q0, hargs, rfl, rfl, h0, r0⟩ := trodAll_cons hA
  obtain ⟨v1, vs1, d1, ds1, p1, q1, rfl, rfl, rfl, h1, r1⟩ := trodAll_cons r0
  obtain ⟨rfl, rfl, rfl⟩ := trodAll_nil r1
  obtain rfl : args = #[v0, v1] := by cases args; simp_all
  obtain ⟨rfl, rfl⟩ := trodVars_none hV
  obtain ⟨a0, rfl, rfl, rfl, y0⟩ := open_string Tryz.underlying9 (hval 0 9 v0 rfl rfl) h0
  have w0 : a0.size ≤ 140737488351232 := by
    have z := sized_string hsz (j := 0) (t := 9) rfl rfl
    rw [Array.length_toList] at z
    exact z
  obtain ⟨a1, rfl, rfl, rfl, w1⟩ := open_int Tryz.underlying3 (hval 1 3 v1 rfl rfl) h1
  clear hA0 hval0 hsz0 hsz
  refine (PL.bulletinlaw15_ArticleStrips.walk Pure.ArticleStrips a0 a1 W (Tryz.laysM143.s1_3 W hsh) w0 w1).mono fun e W' ⟨he, bel⟩ => ?_
  subst he
  exact ⟨_, rfl, _, _, _, [], _, [], hW', trodAll_mk1 (shut_bool Tryz.underlying4 _), (trodAll_cons_mk (shut_string Tryz.underlying9 y0) (trodAll_cons_mk (shut_int Tryz.underlying3 w1) trodAll_mk0)), rfl, bel.frame _, fun h => by cases h⟩
theorem over : Rows.articleStripsRow.holds Tryz.pinned (OpenSpec.ofChange Rows.articleStripsSpec) :=
  OpenClaim.holds_of_wide 8 Tryz.f8 rfl rfl rfl rfl rfl rfl rfl ⟨rfl, rfl, rfl, rfl, rfl⟩ rfl rfl rfl rfl rfl (by kernel_rfl) Tryz.func8 (by kernel_rfl)
    (of_decide_eq_true (by kernel_rfl)) (by unfold Func.isWrapper; first | (rw [if_pos (by decide +kernel)]; kernel_rfl) | (rw [if_neg (by decide +kernel)]; exact ⟨rfl, rfl⟩))
    (fun os started H enc _ => lifted os started H enc)
theorem row_holds : Rows.ArticleStripsSaid := over
theorem card_holds : Rows.ArticleStripsCardSaid :=
  Claim7.holds_tied_plain_at .later [] [.data, .pinned] true (true, "0ed969f1a3953f9b426fc905d95e5da96efd084e39c94fceb3821d79c3635a2d") false row_holds (fun _ h => by cases h) (by kernel_rfl) (fun _ h => by cases h) articleStrips_row_tie rfl ⟨rfl, rfl⟩ (by kernel_rfl) rfl
    (fun f fn hf hfn => by
      obtain rfl : f = 8 := Option.some.inj ((show Tryz.prog.funcNamed "bulletin/bulletinlaw15.ArticleStrips" = some 8 by kernel_rfl).symm.trans hf) |>.symm
      obtain rfl : fn = Tryz.f8 := (Option.some.inj (Tryz.func8.symm.trans hfn)).symm
      exact ⟨by kernel_rfl, fun j t ht => by
        rw [Tryz.params8] at ht
        have hm : t ∈ [9, 3] := by simpa using Array.mem_of_getElem? ht
        have hall : ([9, 3].all fun u => !Tryz.prog.wantsStandIn u) = true := by kernel_rfl
        exact (show Tryz.prog.wantsStandIn t = false by simpa using List.all_eq_true.1 hall t hm)⟩)
    (by kernel_rfl)
#print axioms card_holds
end Go.Proofs.YtfeciafdioepiaaGreatDoor.articleStrips
namespace Go.Proofs.YtfeciafdioepiaaGreatDoor
/-- The card, under a short name, for the claim. -/
theorem articleStrips_holds : Rows.ArticleStripsCardSaid := articleStrips.card_holds
end Go.Proofs.YtfeciafdioepiaaGreatDoor
