/- The contract of article's Quote over this translation.; The examples of the document: what the law's known computes.; The law's known holds always. -/
import Derived.Test.YtfeciafdioepiaaGreatDoorHPsS10
import Derived.Laws.EntriesVeiled
import Derived.Test.YtfeciafdioepiaaGreatDoorHPsS2
import Derived.Test.YtfeciafdioepiaaGreatDoorHPsS5
import Derived.Test.YtfeciafdioepiaaGreatDoorHPsS9
set_option linter.unusedVariables false
set_option linter.unusedSimpArgs false
namespace Go.Proofs.YtfeciafdioepiaaGreatDoor
open Go.RowKit Go.Shelf Go.Proofs Go.Proofs.YtfeciafdioepiaaGreatDoorW.PrintWords Go.Proofs.YtfeciafdioepiaaGreatDoorW.PrintMore Go.Proofs.YtfeciafdioepiaaGreatDoor.PA
attribute [local go_sem] Oper.semAt_some

/-- The quoted lines, joined. -/
def quoteAll (xs : List (Nat × List UInt8)) : List UInt8 := xs.flatMap fun x => quoteL x.2 ++ [10]
theorem quoteAll_len (xs : List (Nat × List UInt8)) : (quoteAll xs).length ≤ 3 * costL xs := by
  induction xs with
  | nil => simp [quoteAll, costL]
  | cons x r ih =>
    have hc : costL (x :: r) = x.2.length + 1 + costL r := by simp [costL]
    have hq : quoteAll (x :: r) = quoteL x.2 ++ [10] ++ quoteAll r := rfl
    have := quoteL_len x.2
    rw [hq, hc]; simp; omega
def longQ (x : Nat × List UInt8) : Bool := decide (998 < (quoteL x.2).length)
def quoteR (xs : List (Nat × List UInt8)) : ByteArray × Int := if xs.any longQ = true then (⟨#[]⟩, 5) else if 65536 < (quoteAll xs).length then (⟨#[]⟩, 5) else (mkS (quoteAll xs), 0)

theorem two_results {w W : World} {D : Nat} {t : ByteArray} {c : Int} (n : Nat) (h0 : W.heap[n]? = some (.cells #[.string ⟨#[]⟩] 9 (0, 0))) (h1 : W.heap[n + 1]? = some (.cells #[.int .i64 0] 26 (0, 0))) (hD : n + 1 < D) :
    (((W.setCell ⟨n, 0, none⟩ (.string t)).setCell ⟨n + 1, 0, none⟩ (.int .i64 c)).putObj D (.deferred none)).cell? ⟨n, 0, none⟩ = some (.string t) ∧
    (((W.setCell ⟨n, 0, none⟩ (.string t)).setCell ⟨n + 1, 0, none⟩ (.int .i64 c)).putObj D (.deferred none)).cell? ⟨n + 1, 0, none⟩ = some (.int .i64 c) := by
  have a0 := blk_far (blk_put h0 0 (.string t) rfl) (p := ⟨n + 1, 0, none⟩) (by simp) (.int .i64 c)
  have a1 := blk_put (blk_far h1 (p := ⟨n, 0, none⟩) (by simp) (.string t)) 0 (.int .i64 c) rfl
  exact ⟨(blk_cell (blk_putObj a0 (by omega)) 0).trans rfl, (blk_cell (blk_putObj a1 (by omega)) 0).trans rfl⟩

set_option maxHeartbeats 1000000 in
set_option maxRecDepth 100000 in
theorem quote_main (s : ByteArray) (w : World) (hs : s.size ≤ 1000000) (k : Nat) (a : Int) (hcb : PC.article_CheckBody.f k s = some (a, 0)) :
    Calls Tryz.prog 21 #[.string s] w fun e w' => e = .returned (.tuple #[.string (quoteR (linesU s.data.toList)).1, .int .i64 (quoteR (linesU s.data.toList)).2]) ∧ Below w.heap.size w w' := by
  have HC := Lib.hid (fun w => PC.article_CheckBody.calls k s a 0 w hcb)
  clear hcb
  have hr0 := blk_alloc (heap_alloc_last w (.cells #[.string ⟨#[]⟩] 9)) (.cells #[.int .i64 0] 26)
  have hr1 : ((w.alloc (.cells #[.string ⟨#[]⟩] 9)).alloc (.cells #[.int .i64 0] 26)).heap[w.heap.size + 1]? = some (.cells #[.int .i64 0] 26 (0, 0)) := by
    have := heap_alloc_last (w.alloc (.cells #[.string ⟨#[]⟩] 9)) (.cells #[.int .i64 0] 26)
    rwa [World.size_alloc] at this
  obtain ⟨R, hR⟩ : ∃ R, quoteR (linesU s.data.toList) = R := ⟨_, rfl⟩
  rw [hR]
  have HRR := Lib.hid hR
  clear hR
  have HR0 := Aside0.mk hr0
  have HR1 := Aside0.mk hr1
  clear hr0 hr1
  refine (callsIn_wide (n := 3)).1 ?_
  refine callsIn_of_wp_marks Tryz.func21 rfl trivial ?_ rfl
  simp only [Tryz.ntmps21, List.size_toArray, List.length_cons, List.length_nil, Nat.reduceAdd, Nat.reduceSub, Array.replicate_succ, Array.replicate_zero, List.push_toArray, List.append_toArray, List.nil_append, List.cons_append]
  gi_wp2_with (first
    | (refine ⟨trivial, ?_⟩; gi_at_call 17; refine (callsIn_wide.2 (HC.out _)).mono ?_; rintro e w1 ⟨rfl, hb1⟩; have hc0 := blk_below HR0.out hb1; have hc1 := blk_below HR1.out hb1; have hlt1 := blk_lt hc1; have HC0 := Aside0.mk hc0; have HC1 := Aside0.mk hc1; have HB1 := Aside0.mk ((((Below.refl _ w).alloc (Nat.le_refl _) (.cells #[.string ⟨#[]⟩] 9)).alloc (by simp) (.cells #[.int .i64 0] 26)).trans (hb1.mono (by simp; omega))); clear hb1 hc1 hc0)
    | (refine ⟨trivial, ?_⟩; gi_at_call 48; refine (callsIn_wide.2 (lines_any s _)).mono ?_; rintro e w' ⟨rfl, rfl⟩))
  have hb0 : Lib.IsBuilder 85 5 w.heap.size w1.heap.size (Lib.byteCells []) (w1.alloc (.cells #[.pointer none, .slice none 0 0] 85)) := fresh_builder (by omega) (heap_alloc_last w1 _)
  have hb : Lib.IsBuilder 85 5 w.heap.size w1.heap.size (Lib.byteCells []) (((w1.alloc (.cells #[.pointer none, .slice none 0 0] 85)).alloc (.cells #[.func (.func 45) #[] #[.pointer (some ⟨w1.heap.size, 0, none⟩)]] 38)).alloc (.cells #[.string s] 9)) := IsBuilder_below (IsBuilder_below hb0 ((Below.refl _ _).alloc (Nat.le_refl _) _)) ((Below.refl _ _).alloc (Nat.le_refl _) _)
  have hf : (((w1.alloc (.cells #[.pointer none, .slice none 0 0] 85)).alloc (.cells #[.func (.func 45) #[] #[.pointer (some ⟨w1.heap.size, 0, none⟩)]] 38)).alloc (.cells #[.string s] 9)).heap[w1.heap.size + 1]? = some (.cells #[.func (.func 45) #[] #[.pointer (some ⟨w1.heap.size, 0, none⟩)]] 38 (0, 0)) := by
    have := heap_alloc_last (w1.alloc (.cells #[.pointer none, .slice none 0 0] 85)) (.cells #[.func (.func 45) #[] #[.pointer (some ⟨w1.heap.size, 0, none⟩)]] 38)
    rw [World.size_alloc] at this
    exact blk_alloc this _
  have hl : (((w1.alloc (.cells #[.pointer none, .slice none 0 0] 85)).alloc (.cells #[.func (.func 45) #[] #[.pointer (some ⟨w1.heap.size, 0, none⟩)]] 38)).alloc (.cells #[.string s] 9)).heap[w1.heap.size + 1 + 1]? = some (.cells #[.string s] 9 (0, 0)) := by
    have := heap_alloc_last ((w1.alloc (.cells #[.pointer none, .slice none 0 0] 85)).alloc (.cells #[.func (.func 45) #[] #[.pointer (some ⟨w1.heap.size, 0, none⟩)]] 38)) (.cells #[.string s] 9)
    rwa [World.size_alloc, World.size_alloc] at this
  have hc0 := blk_alloc (blk_alloc2 (o1 := .cells #[.pointer none, .slice none 0 0] 85) (o2 := (.cells #[.func (.func 45) #[] #[.pointer (some ⟨w1.heap.size, 0, none⟩)]] 38)) HC0.out) (.cells #[.string s] 9)
  have hc1 := blk_alloc (blk_alloc2 (o1 := .cells #[.pointer none, .slice none 0 0] 85) (o2 := (.cells #[.func (.func 45) #[] #[.pointer (some ⟨w1.heap.size, 0, none⟩)]] 38)) HC1.out) (.cells #[.string s] 9)
  have hB0 : Below w.heap.size w (((w1.alloc (.cells #[.pointer none, .slice none 0 0] 85)).alloc (.cells #[.func (.func 45) #[] #[.pointer (some ⟨w1.heap.size, 0, none⟩)]] 38)).alloc (.cells #[.string s] 9)) := ((HB1.out.alloc HB1.out.size _).alloc (by simp; omega) _).alloc (by simp; omega) _
  obtain ⟨W0, hW0⟩ : ∃ W0, ((w1.alloc (.cells #[.pointer none, .slice none 0 0] 85)).alloc (.cells #[.func (.func 45) #[] #[.pointer (some ⟨w1.heap.size, 0, none⟩)]] 38)).alloc (.cells #[.string s] 9) = W0 := ⟨_, rfl⟩
  have hsz : W0.heap.size = w1.heap.size + 3 := by rw [← hW0]; simp
  try simp only [World.size_alloc]
  rw [hW0] at hc0 hc1 hb hl hf hB0 ⊢
  have Hsz := Lib.hid hsz
  clear hW0 hsz hb0
  refine range_law2 (gf := 75) (lb := #[.pointer (some ⟨w1.heap.size + 1 + 1, 0, none⟩)]) rfl (enters_of Tryz.func75 (by kernel_rfl) rfl) (lines_iter s (w1.heap.size + 1 + 1) (by omega)) (fun _ _ h => h.others) (fun _ => rfl)
    (fun pre W => (Lib.IsBuilder 85 5 w.heap.size w1.heap.size (Lib.byteCells (quoteAll pre)) W ∧ W.heap[w.heap.size]? = some (.cells #[.string ⟨#[]⟩] 9 (0, 0)) ∧ W.heap[w.heap.size + 1]? = some (.cells #[.int .i64 0] 26 (0, 0)) ∧
      W.heap[w1.heap.size + 1]? = some (.cells #[.func (.func 45) #[] #[.pointer (some ⟨w1.heap.size, 0, none⟩)]] 38 (0, 0)) ∧ pre <+: linesU s.data.toList ∧ pre.any longQ = false) ∧ (∃ v, W.heap[w1.heap.size + 1 + 1]? = some (.cells #[v] 9 (0, 0))) ∧ Below w.heap.size w W)
    (fun c pre W => c = .ret ∧ pre.any longQ = true ∧ W.heap[w.heap.size]? = some (.cells #[.string ⟨#[]⟩] 9 (0, 0)) ∧ W.heap[w.heap.size + 1]? = some (.cells #[.int .i64 5] 26 (0, 0)) ∧ Below w.heap.size w W)
    (fun pre W W' h hm => by
      obtain ⟨v, hv⟩ := h.2.1
      exact ⟨⟨IsBuilder_line h.1.1 hm hv, hm.blk h.1.2.1 (by omega), hm.blk h.1.2.2.1 (by omega), hm.blk h.1.2.2.2.1 (by omega), h.1.2.2.2.2⟩, hm.own h.2.1, hm.below (by omega) h.2.2⟩) (fun pre W h => h.2.1)
    (fun pre W l o hl ho h => by
      obtain ⟨o0, ho0, hoc⟩ := ho
      have := Hsz.out
      obtain ⟨v, hv⟩ := h.2.1
      exact ⟨⟨IsBuilder_putObj h.1.1 ho0 hoc, blk_putObj h.1.2.1 (by omega), blk_putObj h.1.2.2.1 (by omega), blk_putObj h.1.2.2.2.1 (by omega), h.1.2.2.2.2⟩, ⟨v, blk_putObj hv (by omega)⟩, below_putObj h.2.2 (Nat.le_refl _) (by omega) _⟩)
    (fun c pre W l o hl ho h => by
      have := Hsz.out
      exact ⟨h.1, h.2.1, blk_putObj h.2.2.1 (by omega), blk_putObj h.2.2.2.1 (by omega), below_putObj h.2.2.2.2 (Nat.le_refl _) (by omega) _⟩)
    (fun o o' => ⟨⟨IsBuilder_below (IsBuilder_below hb ((Below.refl _ _).alloc (Nat.le_refl _) _)) ((Below.refl _ _).alloc (Nat.le_refl _) _), blk_alloc2 hc0, blk_alloc2 hc1, blk_alloc2 hf, List.nil_prefix, rfl⟩, ⟨_, blk_alloc2 hl⟩, (hB0.alloc (by have := Hsz.out; omega) _).alloc (by have := Hsz.out; simp; omega) _⟩)
    (fun o o' => blk_alloc2 hl)
    (fun x => { tmps := #[.string s, undef, .pointer (some ⟨w.heap.size, 0, none⟩), .pointer (some ⟨w.heap.size + 1, 0, none⟩), .int .i64 a, .int .i64 0, .pointer (some ⟨w1.heap.size, 0, none⟩), .pointer (some ⟨w1.heap.size + 1, 0, none⟩), undef, .string (mkS x.2), .tuple #[.int .i64 a, .int .i64 0], .string s, .tuple #[.int .i64 a, .int .i64 0], .int .i64 a, .int .i64 0, .int .i64 0, .bool false, undef, .func (.func 45) #[] #[.pointer (some ⟨w1.heap.size, 0, none⟩)], .string s, .func (.func 75) #[] #[.pointer (some ⟨w1.heap.size + 1 + 1, 0, none⟩)], .int .i64 x.1, .string (mkS x.2), undef, undef, undef, undef, undef, undef, undef], defers := [] }) ?assign ?body ?done ?stop
  case assign =>
    intro l x W K hK
    gi_wp2
    simpa using hK
  case body =>
    rintro l pre x W ⟨⟨hbd, hcn0, hcn1, hfn, hp, hany⟩, hbx, hB⟩ hlt
    have hcost := costL_pre hlt
    have hslen := quoteAll_len pre
    rw [costL_append] at hcost
    have hx1 : costL [x] = x.2.length + 1 := by simp [costL]
    have hql := quoteL_len x.2
    have hstr : quoteAll (pre ++ [x]) = quoteAll pre ++ (quoteL x.2 ++ [10]) := by simp [quoteAll]
    have hanyx : (pre ++ [x]).any longQ = longQ x := by rw [List.any_append, hany]; simp
    have hltc := blk_lt hcn0
    have HA := Lib.hid (add_any w.heap.size w1.heap.size (Lib.byteCells (quoteAll pre)) x.2 W (by omega) hbd (by simp [Lib.byteCells]; omega) (Nat.le_of_lt hltc))
    have Hstr := Lib.hid hstr
    have hcellf : W.cell? ⟨w1.heap.size + 1, 0, none⟩ = some (.func (.func 45) #[] #[.pointer (some ⟨w1.heap.size, 0, none⟩)]) := (blk_cell hfn 0).trans rfl
    have HCN0 := Aside0.mk hcn0
    have HCN1 := Aside0.mk hcn1
    have HFN := Aside0.mk hfn
    have HBX := Aside0.mk hbx
    have HB := Aside0.mk hB
    clear hstr hbd hbx hB hcost hslen hx1 hany hcn0 hcn1 hfn
    by_cases h9 : ((quoteL x.2).length : Int) ≤ 998
    · have hlq : longQ x = false := by unfold longQ; exact decide_eq_false (by omega)
      have hdec : decide (((quoteL x.2).length : Int) ≤ 998) = true := decide_eq_true h9
      rw [hdec] at HA
      rw [hlq] at hanyx
      have Hany := Lib.hid hanyx
      clear hanyx hlq hdec h9 hql
      gi_wp2_with (refine ⟨trivial, ?_⟩; gi_at_call 45; refine (CallsIn.inRound l (callsIn_wide.2 HA.out)).mono ?_; rintro e w3 ⟨rfl, hb3, hbl3, hsib3, hko3⟩; have HB3 := Aside0.mk hb3; have HBL3 := Aside0.mk hbl3; have HS3 := Aside0.mk hsib3; have HK3 := Aside0.mk hko3; clear hb3 hbl3 hsib3 hko3)
      refine ⟨HK3.out, ⟨⟨?_, (HS3.out _ _ 9 HCN0.out (by decide) (by decide)).trans HCN0.out, (HS3.out _ _ 26 HCN1.out (by decide) (by decide)).trans HCN1.out, (HS3.out _ _ 38 HFN.out (by decide) (by decide)).trans HFN.out, hlt, Hany.out⟩, ?_, HB.out.trans HBL3.out⟩⟩
      · rw [Hstr.out]
        have h1 : Lib.byteCells (quoteAll pre ++ (quoteL x.2 ++ [10])) = Lib.byteCells (quoteAll pre) ++ Lib.byteCells (quoteL x.2 ++ [10]) := by simp [Lib.byteCells]
        rw [h1]
        exact HB3.out
      · obtain ⟨v, hv⟩ := HBX.out
        exact ⟨v, (HS3.out _ _ 9 hv (by decide) (by decide)).trans hv⟩
    · have hlq : longQ x = true := by unfold longQ; exact decide_eq_true (by omega)
      have hdec : decide (((quoteL x.2).length : Int) ≤ 998) = false := decide_eq_false h9
      rw [hdec] at HA
      rw [hlq] at hanyx
      have Hany := Lib.hid hanyx
      clear hanyx hlq hdec h9 hql
      gi_wp2_with (refine ⟨trivial, ?_⟩; gi_at_call 45; refine (CallsIn.inRound l (callsIn_wide.2 HA.out)).mono ?_; rintro e w3 ⟨rfl, hb3, hbl3, hsib3, hko3⟩; have hcm0 := (hsib3 _ _ 9 HCN0.out (by decide) (by decide)).trans HCN0.out; have hcm1 := (hsib3 _ _ 26 HCN1.out (by decide) (by decide)).trans HCN1.out; have hce0 : w3.cell? ⟨w.heap.size, 0, none⟩ = some (.string ⟨#[]⟩) := (blk_cell hcm0 0).trans rfl; have hce1 : w3.cell? ⟨w.heap.size + 1, 0, none⟩ = some (.int .i64 0) := (blk_cell hcm1 0).trans rfl; have hfz0 := blk_frozen hcm0 0; have hfz1 := blk_frozen hcm1 0; have HCM0 := Aside0.mk hcm0; have HCM1 := Aside0.mk hcm1; have HBL3 := Aside0.mk hbl3; have HK3 := Aside0.mk hko3; clear hb3 hbl3 hsib3 hko3 hcm0 hcm1)
      refine ⟨(HK3.out.trans (KeepsOthers.setCell _ _ _)).trans (KeepsOthers.setCell _ _ _), rfl, Hany.out, blk_far (blk_put HCM0.out 0 _ rfl) (p := ⟨w.heap.size + 1, 0, none⟩) (by simp) _, blk_put (blk_far HCM1.out (p := ⟨w.heap.size, 0, none⟩) (by simp) _) 0 _ rfl,
        ((HB.out.trans HBL3.out).setCell (p := ⟨w.heap.size, 0, none⟩) (Nat.le_refl _) _).setCell (p := ⟨w.heap.size + 1, 0, none⟩) (Nat.le_succ _) _⟩
  case done =>
    rintro D ys W hD rfl ⟨⟨hbd, hcn0, hcn1, hfn, _, hany⟩, _, hB⟩ hK
    have hw0 := Hsz.out
    have hq0 : quoteR (linesU s.data.toList) = if 65536 < (quoteAll (linesU s.data.toList)).length then (⟨#[]⟩, 5) else (mkS (quoteAll (linesU s.data.toList)), 0) := by unfold quoteR; rw [if_neg (by simp [hany])]
    have HRq := Lib.hid (HRR.out.symm.trans hq0)
    clear HRR
    generalize quoteAll (linesU s.data.toList) = L at *
    have hln := Tryz.Builder_Len _ _ _ _ hbd
    rw [Lib.byteCells_length] at hln
    have HLN := Lib.hid hln
    have hce0 : W.cell? ⟨w.heap.size, 0, none⟩ = some (.string ⟨#[]⟩) := (blk_cell hcn0 0).trans rfl
    have hce1 : W.cell? ⟨w.heap.size + 1, 0, none⟩ = some (.int .i64 0) := (blk_cell hcn1 0).trans rfl
    have hfz0 := blk_frozen hcn0 0
    have hfz1 := blk_frozen hcn1 0
    have HCN0 := Aside0.mk hcn0
    have HCN1 := Aside0.mk hcn1
    have HBD := Aside0.mk hbd
    have HB := Aside0.mk hB
    have HKK := Aside0.mk hK
    clear hln hcn0 hcn1 hbd hB hK hq0 hany hfn hc0 hc1 hb hf hl hB0
    by_cases hlong : 65536 < L.length
    · obtain rfl : R = (⟨#[]⟩, 5) := by rw [HRq.out, if_pos hlong]
      have hd : decide ((65536 : Int) < (L.length : Int)) = true := decide_eq_true (by omega)
      have hd' : decide (65536 < L.length) = true := decide_eq_true hlong
      clear hlong
      gi_wp2_with (first | (refine ⟨trivial, ?_⟩; gi_at_call 49; refine (callsIn_wide.2 HLN.out).mono ?_; rintro e w2 ⟨rfl, rfl⟩))
      obtain ⟨hc5, hc6⟩ := two_results (w := w) (D := D) (t := ⟨#[]⟩) (c := 5) w.heap.size HCN0.out HCN1.out (by omega)
      have hKe := (KeepsOthers.setCell _ ⟨w.heap.size + 1, 0, none⟩ (.int .i64 5)).same D _ ((KeepsOthers.setCell _ ⟨w.heap.size, 0, none⟩ (.string ⟨#[]⟩)).same D _ (HKK.out) rfl) rfl
      refine ⟨by simp, .inl ⟨_, _, rfl, run_takeDeferred hKe, ?_⟩⟩
      refine ⟨.tuple #[.string ⟨#[]⟩, .int .i64 5], ?_, rfl, below_putObj (((HB.out).setCell (p := ⟨w.heap.size, 0, none⟩) (Nat.le_refl _) _).setCell (p := ⟨w.heap.size + 1, 0, none⟩) (Nat.le_succ _) _) (Nat.le_refl _) (by omega) _⟩
      simp [results, Tryz.f21, go_sem, hc5, hc6]
    · obtain rfl : R = (mkS L, 0) := by rw [HRq.out, if_neg hlong]
      have hd : decide ((65536 : Int) < (L.length : Int)) = false := decide_eq_false (by omega)
      have hd' : decide (65536 < L.length) = false := decide_eq_false hlong
      clear hlong
      gi_wp2_with (first
        | (refine ⟨trivial, ?_⟩; gi_at_call 49; refine (callsIn_wide.2 HLN.out).mono ?_; rintro e w2 ⟨rfl, rfl⟩)
        | (refine ⟨trivial, ?_⟩; gi_at_call 50; refine (callsIn_wide.2 (builderString _ _ _ _ HBD.out HB.out.size)).mono ?_; rintro e w2 ⟨rfl, hb2, ho2⟩; have hcm0 := others_deferred ho2 HCN0.out (by omega) (fun _ _ e => by cases e); have hcm1 := others_deferred ho2 HCN1.out (by omega) (fun _ _ e => by cases e); have hce0 : w2.cell? ⟨w.heap.size, 0, none⟩ = some (.string ⟨#[]⟩) := (blk_cell hcm0 0).trans rfl; have hce1 : w2.cell? ⟨w.heap.size + 1, 0, none⟩ = some (.int .i64 0) := (blk_cell hcm1 0).trans rfl; have hfz0 := blk_frozen hcm0 0; have hfz1 := blk_frozen hcm1 0; have HCM0 := Aside0.mk hcm0; have HCM1 := Aside0.mk hcm1; have HB2 := Aside0.mk hb2; have HO2 := Aside0.mk ho2; clear hb2 ho2 hcm0 hcm1))
      obtain ⟨hc5, hc6⟩ := two_results (w := w) (D := D) (t := (mkS L)) (c := 0) w.heap.size HCM0.out HCM1.out (by omega)
      have hKe := (KeepsOthers.setCell _ ⟨w.heap.size + 1, 0, none⟩ (.int .i64 0)).same D _ ((KeepsOthers.setCell _ ⟨w.heap.size, 0, none⟩ (.string (mkS L))).same D _ (others_deferred HO2.out HKK.out (by omega) (fun _ _ e => by cases e)) rfl) rfl
      refine ⟨by simp, .inl ⟨_, _, rfl, run_takeDeferred hKe, ?_⟩⟩
      refine ⟨.tuple #[.string (mkS L), .int .i64 0], ?_, rfl, below_putObj (((HB.out.trans HB2.out).setCell (p := ⟨w.heap.size, 0, none⟩) (Nat.le_refl _) _).setCell (p := ⟨w.heap.size + 1, 0, none⟩) (Nat.le_succ _) _) (Nat.le_refl _) (by omega) _⟩
      simp [results, Tryz.f21, go_sem, hc5, hc6]
  case stop =>
    rintro D c pre W hD hpre ⟨rfl, hany, hcn0, hcn1, hB⟩ hK
    have hw0 := Hsz.out
    have hq : quoteR (linesU s.data.toList) = (⟨#[]⟩, 5) := by
      unfold quoteR
      obtain ⟨r, hr⟩ := hpre
      rw [if_pos (by rw [← hr, List.any_append, hany]; rfl)]
    obtain rfl : R = (⟨#[]⟩, 5) := HRR.out.symm.trans hq
    clear hq hany hc0 hc1 hb hf hl hB0
    gi_wp2
    have hc5 : (W.putObj D (.deferred none)).cell? ⟨w.heap.size, 0, none⟩ = some (.string ⟨#[]⟩) := (blk_cell (blk_putObj hcn0 (by omega)) 0).trans rfl
    have hc6 : (W.putObj D (.deferred none)).cell? ⟨w.heap.size + 1, 0, none⟩ = some (.int .i64 5) := (blk_cell (blk_putObj hcn1 (by omega)) 0).trans rfl
    refine ⟨by simp, .inl ⟨_, _, rfl, run_takeDeferred hK, ?_⟩⟩
    refine ⟨.tuple #[.string ⟨#[]⟩, .int .i64 5], ?_, rfl, below_putObj hB (Nat.le_refl _) (by omega) _⟩
    simp [results, Tryz.f21, go_sem, hc5, hc6]

def GV.Quote.f (k : Nat) (s : ByteArray) : Option (ByteArray × Int) :=
  (PC.article_CheckBody.f k s).bind fun x => if x.2 ≠ 0 then some (⟨#[]⟩, x.2) else if s.size ≤ 1000000 then some (quoteR (linesU s.data.toList)) else none
set_option maxHeartbeats 1000000 in
theorem quote_bad (s : ByteArray) (w : World) (k : Nat) (a c : Int) (hc0 : c ≠ 0) (hcb : PC.article_CheckBody.f k s = some (a, c)) :
    Calls Tryz.prog 21 #[.string s] w fun e w' => e = .returned (.tuple #[.string ⟨#[]⟩, .int .i64 c]) ∧ Below w.heap.size w w' := by
  have hcn : (c != 0) = true := bne_iff_ne.2 hc0
  have HC := Lib.hid (fun w => PC.article_CheckBody.calls k s a c w hcb)
  clear hcb hc0
  have hr0 := blk_alloc (heap_alloc_last w (.cells #[.string ⟨#[]⟩] 9)) (.cells #[.int .i64 0] 26)
  have hr1 : ((w.alloc (.cells #[.string ⟨#[]⟩] 9)).alloc (.cells #[.int .i64 0] 26)).heap[w.heap.size + 1]? = some (.cells #[.int .i64 0] 26 (0, 0)) := by
    have := heap_alloc_last (w.alloc (.cells #[.string ⟨#[]⟩] 9)) (.cells #[.int .i64 0] 26)
    rwa [World.size_alloc] at this
  have HR0 := Aside0.mk hr0
  have HR1 := Aside0.mk hr1
  clear hr0 hr1
  go_enter Tryz.func21, Tryz.ntmps21
  go_wp2_with (go_at_call 17; refine (HC.out _).mono ?_; rintro e w1 ⟨rfl, hb1⟩; have hc0 := blk_below HR0.out hb1; have hc1 := blk_below HR1.out hb1; have hce0 : w1.cell? ⟨w.heap.size, 0, none⟩ = some (.string ⟨#[]⟩) := (blk_cell hc0 0).trans rfl; have hce1 : w1.cell? ⟨w.heap.size + 1, 0, none⟩ = some (.int .i64 0) := (blk_cell hc1 0).trans rfl; have hfz0 := blk_frozen hc0 0; have hfz1 := blk_frozen hc1 0; have HC0 := Aside0.mk hc0; have HC1 := Aside0.mk hc1; have HB1 := Aside0.mk ((((Below.refl _ w).alloc (Nat.le_refl _) (.cells #[.string ⟨#[]⟩] 9)).alloc (by simp) (.cells #[.int .i64 0] 26)).trans (hb1.mono (by simp; omega))); clear hb1 hc1 hc0)
  have a0 := blk_far (blk_put HC0.out 0 (.string ⟨#[]⟩) rfl) (p := ⟨w.heap.size + 1, 0, none⟩) (by simp) (.int .i64 c)
  have a1 := blk_put (blk_far HC1.out (p := ⟨w.heap.size, 0, none⟩) (by simp) (.string ⟨#[]⟩)) 0 (.int .i64 c) rfl
  have hc5 := (blk_cell a0 0).trans rfl
  have hc6 := (blk_cell a1 0).trans rfl
  refine bodyPost_ret (v := .tuple #[.string ⟨#[]⟩, .int .i64 c]) (by simp [results, Tryz.f21, go_sem, hc5, hc6]) rfl ⟨rfl, below_set (below_set HB1.out (Nat.le_refl _)) (Nat.le_succ _)⟩
theorem GV.Quote.calls (k : Nat) (a0 : ByteArray) (r1 : ByteArray) (r2 : Int) (w : World) (h : GV.Quote.f k a0 = some (r1, r2)) :
    Calls Tryz.prog 21 #[.string a0] w fun e w' => e = .returned (.tuple #[.string r1, .int .i64 r2]) ∧ Below w.heap.size w w' := by
  unfold GV.Quote.f at h
  cases hc : PC.article_CheckBody.f k a0 with
  | none => rw [hc] at h; simp at h
  | some x =>
    obtain ⟨a, c⟩ := x
    rw [hc] at h
    simp only [Option.bind_some] at h
    by_cases h2 : c = 0
    · subst h2
      rw [if_neg (by simp)] at h
      by_cases h3 : a0.size ≤ 1000000
      · rw [if_pos h3] at h
        have h4 := Option.some.inj h
        have := quote_main a0 w h3 k a hc
        rw [h4] at this
        exact this
      · rw [if_neg h3] at h; simp at h
    · rw [if_pos h2] at h
      simp only [Option.some.injEq, Prod.mk.injEq] at h
      obtain ⟨rfl, rfl⟩ := h
      exact quote_bad a0 w k a _ h2 hc
end Go.Proofs.YtfeciafdioepiaaGreatDoor
set_option linter.unusedVariables false
set_option linter.unusedSimpArgs false
namespace Go.Proofs.YtfeciafdioepiaaGreatDoor
open Go.RowKit Go.Shelf Go.Proofs Go.Proofs.YtfeciafdioepiaaGreatDoorW.PrintWords Go.Proofs.YtfeciafdioepiaaGreatDoorW.PrintMore Go.Proofs.YtfeciafdioepiaaGreatDoor.PA
def knF : List S76 := [⟨mkS [83, 117, 98, 106, 101, 99, 116], mkS [97]⟩]
theorem kn1 : GV.AParse.f 60 ⟨#[83, 117, 98, 106, 101, 99, 116, 58, 32, 97, 10, 10, 104, 101, 108, 108, 111, 10]⟩ = some (knF, ⟨#[104, 101, 108, 108, 111, 10]⟩, 0, 0) := by kernel_rfl
theorem kn2 : PC.article_Print.f 60 knF ⟨#[104, 101, 108, 108, 111, 10]⟩ = some (⟨#[83, 117, 98, 106, 101, 99, 116, 58, 32, 97, 10, 10, 104, 101, 108, 108, 111, 10]⟩, 0) := by decide +kernel
theorem kn3 : GV.AParse.f 60 ⟨#[83, 117, 98, 106, 101, 99, 116, 58, 32, 97, 10, 10, 120]⟩ = some ([], ⟨#[]⟩, 13, 4) := by kernel_rfl
theorem kn4 : GV.Quote.f 60 ⟨#[97, 10, 62, 32, 98, 10, 10]⟩ = some (⟨#[62, 32, 97, 10, 62, 62, 32, 98, 10, 62, 10]⟩, 0) := by decide +kernel
theorem kn5 : markN [62, 62, 32, 120] = 2 ∧ restL [62, 62, 32, 120] = [120] := by decide +kernel
theorem kn6 : (linesU [97, 10, 98]).length = 2 := by decide +kernel
end Go.Proofs.YtfeciafdioepiaaGreatDoor
set_option linter.unusedVariables false
set_option linter.unusedSimpArgs false
namespace Go.Proofs.YtfeciafdioepiaaGreatDoor
open Go.RowKit Go.Shelf Go.Proofs Go.Proofs.YtfeciafdioepiaaGreatDoorW.PrintWords Go.Proofs.YtfeciafdioepiaaGreatDoorW.PrintMore Go.Proofs.YtfeciafdioepiaaGreatDoor.PA
attribute [local go_sem] Oper.semAt_some
set_option maxHeartbeats 4000000 in
set_option maxRecDepth 100000 in
theorem known_any (w : World) (hgm : Gm w) : Calls Tryz.prog 14 #[] w fun e w' => e = .returned (.bool true) ∧ Below w.heap.size w w' := by
  have hu76 := Tryz.underlying76
  have HGM := Aside0.mk hgm
  clear hgm
  go_enter Tryz.func14, Tryz.ntmps14
  go_wp2_with fail
  refine (GV.AParse.calls 60 _ _ _ _ _ _ HGM.out kn1).mono ?_
  rintro e w1 ⟨v1, rfl, hR1, hb1⟩
  obtain ⟨g, c1, rfl⟩ : ∃ g c, v1 = .slice (some ⟨g, 0, none⟩) knF.length c := by
    obtain ⟨inner, ho⟩ := Kd.R_own hR1
    rcases ho.2 with ⟨_, h0⟩ | ⟨g, c, cur, hv, _⟩
    · exact absurd h0 (by decide)
    · exact ⟨g, c, hv⟩
  have HR1 := Aside0.mk (Kd.R_alloc hR1 (.cells #[.slice (some ⟨g, 0, none⟩) knF.length c1, .string ⟨#[104, 101, 108, 108, 111, 10]⟩] 25))
  have HA1 := Aside0.mk (blk_new w1 (.cells #[.slice (some ⟨g, 0, none⟩) knF.length c1, .string ⟨#[104, 101, 108, 108, 111, 10]⟩] 25))
  have HB1 := Aside0.mk (below_alloc hb1 (.cells #[.slice (some ⟨g, 0, none⟩) knF.length c1, .string ⟨#[104, 101, 108, 108, 111, 10]⟩] 25))
  have HGM1 := Aside0.mk (gm_at (gm_at HGM.out hb1) ((Below.refl _ _).alloc (Nat.le_refl _) (.cells #[.slice (some ⟨g, 0, none⟩) knF.length c1, .string ⟨#[104, 101, 108, 108, 111, 10]⟩] 25)))
  clear hR1 hb1
  go_wp2_with fail
  refine (PC.article_Print.calls 60 (some ⟨g, 0, none⟩) c1 knF _ _ _ _ (Kd.R_reads' HR1.out).2.2 (Kd.R_reads' HR1.out).2.1 kn2).mono ?_
  rintro e w2 ⟨rfl, hb2⟩
  have HB2 := Aside0.mk (HB1.out.trans (hb2.mono HB1.out.size))
  have HR2 := Aside0.mk (Kd.R_below HR1.out hb2)
  have HA2 := Aside0.mk (blk_below HA1.out hb2)
  have HGM2 := Aside0.mk (gm_at HGM1.out hb2)
  clear hb2 HR1 HA1 HB1 HGM1
  go_wp2_with fail
  refine (GV.AParse.calls 60 _ _ _ _ _ _ HGM2.out kn3).mono ?_
  rintro e w3 ⟨v3, rfl, hR3, hb3⟩
  obtain ⟨A3, c3, e3⟩ := Kd.R_slice hR3
  subst e3
  have HB3 := Aside0.mk (HB2.out.trans (hb3.mono HB2.out.size))
  have HR3 := Aside0.mk (Kd.R_below HR2.out hb3)
  have HA3 := Aside0.mk (blk_below HA2.out hb3)
  clear hR3 hb3 HB2 HR2 HA2 HGM2
  go_wp2_with fail
  refine (GV.Quote.calls 60 _ _ _ _ kn4).mono ?_
  rintro e w4 ⟨rfl, hb4⟩
  have HB4 := Aside0.mk ((below_alloc HB3.out (.cells #[.slice A3 0 c3, .string ⟨#[]⟩] 25)).trans (hb4.mono (below_alloc HB3.out _).size))
  have HA4 := Aside0.mk (blk_below (blk_alloc HA3.out (.cells #[.slice A3 0 c3, .string ⟨#[]⟩] 25)) hb4)
  have hR4 := Kd.R_below (Kd.R_alloc HR3.out (.cells #[.slice A3 0 c3, .string ⟨#[]⟩] 25)) hb4
  obtain ⟨ad, e5, hx0, hx1⟩ := at_T76 (Kd.R_reads' hR4).2.2 0 (by decide) (by decide)
  injection e5 with e5
  subst e5
  have hx0' : w4.cell? ⟨g, 0, none⟩ = some (.string ⟨#[83, 117, 98, 106, 101, 99, 116]⟩) := hx0
  have hx1' : w4.cell? ⟨g, 1, none⟩ = some (.string ⟨#[97]⟩) := hx1
  have ha0 : w4.cell? ⟨w1.heap.size, 0, none⟩ = some (.slice (some ⟨g, 0, none⟩) 1 c1) := (blk_cell HA4.out 0).trans rfl
  have ha1 : w4.cell? ⟨w1.heap.size, 1, none⟩ = some (.string ⟨#[104, 101, 108, 108, 111, 10]⟩) := (blk_cell HA4.out 1).trans rfl
  clear hR4 hb4 HR3 HA3 HB3 hx0 hx1
  go_wp2_with fail
  refine (level_any ⟨#[62, 62, 32, 120]⟩ _ (by decide)).mono ?_
  rintro e w5 ⟨rfl, hd⟩
  obtain ⟨n5, rfl⟩ := hd.1
  have e1 : (⟨#[62, 62, 32, 120]⟩ : ByteArray).data.toList = [62, 62, 32, 120] := rfl
  rw [e1, kn5.1, kn5.2]
  have e2 : mkS [120] = ⟨#[120]⟩ := rfl
  rw [e2]
  clear e1 e2 hd
  have HCT := Lib.hid (fun w => count_any ⟨#[97, 10, 98]⟩ w (by decide))
  go_wp2_with (go_at_call 39; refine (HCT.out _).mono ?_; rintro e w6 ⟨he, hb6⟩; rw [show (linesU (⟨#[97, 10, 98]⟩ : ByteArray).data.toList).length = 2 from kn6] at he; subst he; have HB6 := Aside0.mk ((pw_below_drewN HB4.out n5).trans (hb6.mono HB4.out.size)); clear hb6)
  go_ret
  exact ⟨rfl, HB6.out⟩
theorem GV.known.calls (r : Bool) (w : World) (hgm : Gm w) (h : GV.known.f = some r) : Calls Tryz.prog 14 #[] w fun e w' => e = .returned (.bool r) ∧ Below w.heap.size w w' := by
  injection h with h
  subst h
  exact known_any w hgm
end Go.Proofs.YtfeciafdioepiaaGreatDoor
namespace Go.Proofs.YtfeciafdioepiaaGreatDoor.PA
open Go.RowKit Go.Proofs.YtfeciafdioepiaaGreatDoorW.PrintWords Go.Proofs.YtfeciafdioepiaaGreatDoorW.PrintLast Go.Proofs.YtfeciafdioepiaaGreatDoorW.PrintMore
attribute [local go_sem] max2_int min2_int max_two min_two max_three min_three max_four min_four   -- for this text's walks alone
set_option linter.unusedVariables false
set_option linter.unusedSimpArgs false

/-! ### bulletinref15_Print: function 20 -/
def bulletinref15_Print.f (k : Nat) (l0_0 : List (S78)) (a0_1 : ByteArray) : Option (ByteArray × Int) := (bulletinref09_Print.f k l0_0).bind fun bt234 => (if bt234.2 = 0 then ((bulletinref15_Body.f k a0_1).bind fun bt236 => (if bt236.2 = 0 then (if (wrap64 ((wrap64 ((bt234.1.size : Int) + 1)) + (a0_1.size : Int))) > 65536 then (some ((⟨#[]⟩ : ByteArray), 5)) else (if bt234.1.size + 1 ≤ 9223372036854775807 then (if (bt234.1 ++ (⟨#[10]⟩ : ByteArray)).size + a0_1.size ≤ 9223372036854775807 then (some ((bt234.1 ++ (⟨#[10]⟩ : ByteArray)) ++ a0_1, 0)) else (none)) else (none))) else (some ((⟨#[]⟩ : ByteArray), bt236.2)))) else (some ((⟨#[]⟩ : ByteArray), bt234.2)))
set_option maxHeartbeats 8000000 in
set_option maxRecDepth 100000 in
theorem bulletinref15_Print.calls (k : Nat) (A0_0 : Option Addr) (c0_0 : Nat) (l0_0 : List (S78)) (a0_1 : ByteArray) (r1 : ByteArray) (r2 : Int) (w : World) (hr0_0 : Kd.C k78 w A0_0 l0_0.length l0_0) (hc0_0 : l0_0.length ≤ c0_0) (h : bulletinref15_Print.f k l0_0 a0_1 = some (r1, r2)) :
    Calls Tryz.prog 20 #[.agg #[.slice A0_0 l0_0.length c0_0, .string a0_1]] w fun e w' => e = .returned (.tuple #[.string r1, .int .i64 r2]) ∧ Below w.heap.size w w' := by
  have hu31 := Tryz.underlying31
  have HR0_0 := Aside0.mk hr0_0
  have HC0_0 := Aside0.mk hc0_0
  clear hr0_0 hc0_0
  have HB := Aside0.mk (Below.refl w.heap.size w)
  have H : ((bulletinref09_Print.f k l0_0).bind fun bt234 => (if bt234.2 = 0 then ((bulletinref15_Body.f k a0_1).bind fun bt236 => (if bt236.2 = 0 then (if (wrap64 ((wrap64 ((bt234.1.size : Int) + 1)) + (a0_1.size : Int))) > 65536 then (some ((⟨#[]⟩ : ByteArray), 5)) else (if bt234.1.size + 1 ≤ 9223372036854775807 then (if (bt234.1 ++ (⟨#[10]⟩ : ByteArray)).size + a0_1.size ≤ 9223372036854775807 then (some ((bt234.1 ++ (⟨#[10]⟩ : ByteArray)) ++ a0_1, 0)) else (none)) else (none))) else (some ((⟨#[]⟩ : ByteArray), bt236.2)))) else (some ((⟨#[]⟩ : ByteArray), bt234.2)))) = some (r1, r2) := h
  clear h
  replace H := Option.bind_eq_some_iff.mp H
  obtain ⟨⟨t234, t235⟩, A20, H⟩ := H
  replace H : (if t235 = 0 then ((bulletinref15_Body.f k a0_1).bind fun bt236 => (if bt236.2 = 0 then (if (wrap64 ((wrap64 ((t234.size : Int) + 1)) + (a0_1.size : Int))) > 65536 then (some ((⟨#[]⟩ : ByteArray), 5)) else (if t234.size + 1 ≤ 9223372036854775807 then (if (t234 ++ (⟨#[10]⟩ : ByteArray)).size + a0_1.size ≤ 9223372036854775807 then (some ((t234 ++ (⟨#[10]⟩ : ByteArray)) ++ a0_1, 0)) else (none)) else (none))) else (some ((⟨#[]⟩ : ByteArray), bt236.2)))) else (some ((⟨#[]⟩ : ByteArray), t235))) = some (r1, r2) := H
  have A2 := Aside0.mk A20
  clear A20
  by_cases c3 : t235 = 0
  · rw [if_pos c3] at H
    have c3b0 : (t235 == 0) = true := beq_iff_eq.mpr c3
    have c3b1 : (t235 != 0) = false := bne_eq_false_iff_eq.mpr c3
    clear c3
    replace H := Option.bind_eq_some_iff.mp H
    obtain ⟨⟨t236, t237⟩, A40, H⟩ := H
    replace H : (if t237 = 0 then (if (wrap64 ((wrap64 ((t234.size : Int) + 1)) + (a0_1.size : Int))) > 65536 then (some ((⟨#[]⟩ : ByteArray), 5)) else (if t234.size + 1 ≤ 9223372036854775807 then (if (t234 ++ (⟨#[10]⟩ : ByteArray)).size + a0_1.size ≤ 9223372036854775807 then (some ((t234 ++ (⟨#[10]⟩ : ByteArray)) ++ a0_1, 0)) else (none)) else (none))) else (some ((⟨#[]⟩ : ByteArray), t237))) = some (r1, r2) := H
    have A4 := Aside0.mk A40
    clear A40
    by_cases c5 : t237 = 0
    · rw [if_pos c5] at H
      have c5b0 : (t237 == 0) = true := beq_iff_eq.mpr c5
      have c5b1 : (t237 != 0) = false := bne_eq_false_iff_eq.mpr c5
      clear c5
      by_cases c6 : (wrap64 ((wrap64 ((t234.size : Int) + 1)) + (a0_1.size : Int))) > 65536
      · rw [if_pos c6] at H
        have c6b0 : decide (65536 < (wrap64 ((wrap64 ((t234.size : Int) + 1)) + (a0_1.size : Int)))) = true := decide_eq_true c6
        have c6b1 := c6b0
        rw [show wrap64 ((wrap64 ((t234.size : Int) + 1)) + (a0_1.size : Int)) = wrap64 ((t234.size : Int) + 1 + (a0_1.size : Int)) from by unfold wrap64; omega] at c6b1
        clear c6
        simp only [Option.some.injEq, Prod.mk.injEq] at H
        obtain ⟨rfl, rfl⟩ := H
        go_enter Tryz.func20, Tryz.ntmps20
        go_wp2_with (first | ((with_reducible refine gate_dst (N := 1) rfl ?_); refine box_event ?hg (N := 1) ?hd (cs := #[.slice A0_0 l0_0.length c0_0, .string a0_1]) (t := 31) ?hr ?_; (case hd => rfl); (case hg => rfl); (case hr => first | (go_simp; done) | (go_simp; rfl)); intro gb233 hg w7 hbox hb; have n0_ := Aside0.mk (below_step (by repeat (first | (with_reducible first | exact HB.out | apply below_alloc | apply pw_below_drewN | apply below_drew1) | exact HB.out)) hb); have n1_ := Aside0.mk (hbox); have n2_ := Aside0.mk ((by rw [hg]; exact (below_size (by repeat (first | (with_reducible first | exact HB.out | apply below_alloc | apply pw_below_drewN | apply below_drew1) | exact HB.out))) : w.heap.size ≤ gb233)); have n3_ := Aside0.mk ((by rw [hg]; exact (below_size (by repeat (first | (with_reducible first | exact HB.out | apply below_alloc | apply pw_below_drewN | apply below_drew1) | exact HB.out))) : w.heap.size ≤ gb233)); clear HB; have HB := n0_; have BK233 := n1_; have GW233 := n2_; have GE233 := n3_; clear n0_ n1_ n2_ n3_; clear hb hbox hg; have hcz8_0 : w7.cell? ⟨gb233, 0, none⟩ = some (.slice A0_0 l0_0.length c0_0) := (blk_cell BK233.out 0).trans rfl; have hcz8_1 : w7.cell? ⟨gb233, 1, none⟩ = some (.string a0_1) := (blk_cell BK233.out 1).trans rfl; have hfz8_0 := blk_frozen BK233.out 0; have hfz8_1 := blk_frozen BK233.out 1) | ((with_reducible refine gate_callee (f := 44) rfl ?_); refine goesL_ (some 11) rfl rfl Tryz.func44 (by kernel_rfl) rfl #[.slice A0_0 l0_0.length c0_0] rfl (by (try simp only [List.map_toArray, List.map_cons, List.map_nil]); first | done | rfl | (simp only [List.length_drop, List.length_take]; rfl)) ?_; (with_reducible refine (bulletinref09_Print.calls k _ _ l0_0 t234 t235 _ ?side1 ?side2 A2.out).mono ?_); (case side1 => repeat (first | exact (Kd.C_below HR0_0.out HB.out) | (with_reducible refine Kd.C_alloc ?_ _) | (with_reducible refine Kd.C_drewN ?_ _) | (with_reducible refine Kd.C_drew ?_))); (case side2 => exact HC0_0.out); rintro e w9 ⟨rfl, hb⟩; refine ⟨_, rfl, ?_⟩; have n0_ := Aside0.mk (blk_below (g := gb233) (o := .cells #[.slice A0_0 l0_0.length c0_0, .string a0_1] 31 (0, 0)) (by (with_reducible repeat (first | refine blk_drewN ?_ _ | refine blk_drew ?_ | refine blk_alloc ?_ _)); exact BK233.out) hb); have n1_ := Aside0.mk (below_step (by repeat (first | (with_reducible first | exact HB.out | apply below_alloc | apply pw_below_drewN | apply below_drew1 | refine below_set ?_ GE233.out) | exact HB.out)) hb); clear BK233; clear HB; have BK233 := n0_; have HB := n1_; clear n0_ n1_; (try clear hb); (try clear hb2); (try clear hk); (try clear hi); have hcz10_0 : w9.cell? ⟨gb233, 0, none⟩ = some (.slice A0_0 l0_0.length c0_0) := (blk_cell BK233.out 0).trans rfl; have hcz10_1 : w9.cell? ⟨gb233, 1, none⟩ = some (.string a0_1) := (blk_cell BK233.out 1).trans rfl; have hfz10_0 := blk_frozen BK233.out 0; have hfz10_1 := blk_frozen BK233.out 1) | ((with_reducible refine gate_callee (f := 18) rfl ?_); refine goesL_ (some 20) rfl rfl Tryz.func18 (by kernel_rfl) rfl #[.string a0_1] rfl (by (try simp only [List.map_toArray, List.map_cons, List.map_nil]); first | done | rfl | (simp only [List.length_drop, List.length_take]; rfl)) ?_; (with_reducible refine (bulletinref15_Body.calls k a0_1 t236 t237 _ A4.out).mono ?_); rintro e w11 ⟨rfl, hb⟩; refine ⟨_, rfl, ?_⟩; have n0_ := Aside0.mk (blk_below (g := gb233) (o := .cells #[.slice A0_0 l0_0.length c0_0, .string a0_1] 31 (0, 0)) (by (with_reducible repeat (first | refine blk_drewN ?_ _ | refine blk_drew ?_ | refine blk_alloc ?_ _)); exact BK233.out) hb); have n1_ := Aside0.mk (below_step (by repeat (first | (with_reducible first | exact HB.out | apply below_alloc | apply pw_below_drewN | apply below_drew1 | refine below_set ?_ GE233.out) | exact HB.out)) hb); clear BK233; clear HB; have BK233 := n0_; have HB := n1_; clear n0_ n1_; (try clear hb); (try clear hb2); (try clear hk); (try clear hi); have hcz12_0 : w11.cell? ⟨gb233, 0, none⟩ = some (.slice A0_0 l0_0.length c0_0) := (blk_cell BK233.out 0).trans rfl; have hcz12_1 : w11.cell? ⟨gb233, 1, none⟩ = some (.string a0_1) := (blk_cell BK233.out 1).trans rfl; have hfz12_0 := blk_frozen BK233.out 0; have hfz12_1 := blk_frozen BK233.out 1))
        go_ret2
        exact ⟨by first | rfl | (simp [errW_none, errW_some] <;> rfl) | (simp [*, errW_none, errW_some] <;> rfl), by repeat (first | (with_reducible first | exact HB.out | apply below_alloc | apply pw_below_drewN | apply below_drew1 | refine below_set ?_ GE233.out) | exact HB.out)⟩
      · rw [if_neg c6] at H
        have c6b0 : decide (65536 < (wrap64 ((wrap64 ((t234.size : Int) + 1)) + (a0_1.size : Int)))) = false := decide_eq_false c6
        have c6b1 := c6b0
        rw [show wrap64 ((wrap64 ((t234.size : Int) + 1)) + (a0_1.size : Int)) = wrap64 ((t234.size : Int) + 1 + (a0_1.size : Int)) from by unfold wrap64; omega] at c6b1
        clear c6
        by_cases c13 : t234.size + 1 ≤ 9223372036854775807
        · rw [if_pos c13] at H
          have c13b0 := eq_true c13
          have c13b1 : decide (t234.size + 1 ≤ 9223372036854775807) = true := decide_eq_true c13
          try have c13b2 : (9223372036854775807 < t234.size + 1) = False := eq_false (Nat.not_lt.2 c13)
          by_cases c14 : (t234 ++ (⟨#[10]⟩ : ByteArray)).size + a0_1.size ≤ 9223372036854775807
          · rw [if_pos c14] at H
            have c14b0 := eq_true c14
            have c14b1 : decide ((t234 ++ (⟨#[10]⟩ : ByteArray)).size + a0_1.size ≤ 9223372036854775807) = true := decide_eq_true c14
            try have c14b2 : (9223372036854775807 < (t234 ++ (⟨#[10]⟩ : ByteArray)).size + a0_1.size) = False := eq_false (Nat.not_lt.2 c14)
            simp only [Option.some.injEq, Prod.mk.injEq] at H
            obtain ⟨rfl, rfl⟩ := H
            go_enter Tryz.func20, Tryz.ntmps20
            go_wp2_with (first | ((with_reducible refine gate_dst (N := 1) rfl ?_); refine box_event ?hg (N := 1) ?hd (cs := #[.slice A0_0 l0_0.length c0_0, .string a0_1]) (t := 31) ?hr ?_; (case hd => rfl); (case hg => rfl); (case hr => first | (go_simp; done) | (go_simp; rfl)); intro gb233 hg w15 hbox hb; have n0_ := Aside0.mk (below_step (by repeat (first | (with_reducible first | exact HB.out | apply below_alloc | apply pw_below_drewN | apply below_drew1) | exact HB.out)) hb); have n1_ := Aside0.mk (hbox); have n2_ := Aside0.mk ((by rw [hg]; exact (below_size (by repeat (first | (with_reducible first | exact HB.out | apply below_alloc | apply pw_below_drewN | apply below_drew1) | exact HB.out))) : w.heap.size ≤ gb233)); have n3_ := Aside0.mk ((by rw [hg]; exact (below_size (by repeat (first | (with_reducible first | exact HB.out | apply below_alloc | apply pw_below_drewN | apply below_drew1) | exact HB.out))) : w.heap.size ≤ gb233)); clear HB; have HB := n0_; have BK233 := n1_; have GW233 := n2_; have GE233 := n3_; clear n0_ n1_ n2_ n3_; clear hb hbox hg; have hcz16_0 : w15.cell? ⟨gb233, 0, none⟩ = some (.slice A0_0 l0_0.length c0_0) := (blk_cell BK233.out 0).trans rfl; have hcz16_1 : w15.cell? ⟨gb233, 1, none⟩ = some (.string a0_1) := (blk_cell BK233.out 1).trans rfl; have hfz16_0 := blk_frozen BK233.out 0; have hfz16_1 := blk_frozen BK233.out 1) | ((with_reducible refine gate_callee (f := 44) rfl ?_); refine goesL_ (some 11) rfl rfl Tryz.func44 (by kernel_rfl) rfl #[.slice A0_0 l0_0.length c0_0] rfl (by (try simp only [List.map_toArray, List.map_cons, List.map_nil]); first | done | rfl | (simp only [List.length_drop, List.length_take]; rfl)) ?_; (with_reducible refine (bulletinref09_Print.calls k _ _ l0_0 t234 t235 _ ?side1 ?side2 A2.out).mono ?_); (case side1 => repeat (first | exact (Kd.C_below HR0_0.out HB.out) | (with_reducible refine Kd.C_alloc ?_ _) | (with_reducible refine Kd.C_drewN ?_ _) | (with_reducible refine Kd.C_drew ?_))); (case side2 => exact HC0_0.out); rintro e w17 ⟨rfl, hb⟩; refine ⟨_, rfl, ?_⟩; have n0_ := Aside0.mk (blk_below (g := gb233) (o := .cells #[.slice A0_0 l0_0.length c0_0, .string a0_1] 31 (0, 0)) (by (with_reducible repeat (first | refine blk_drewN ?_ _ | refine blk_drew ?_ | refine blk_alloc ?_ _)); exact BK233.out) hb); have n1_ := Aside0.mk (below_step (by repeat (first | (with_reducible first | exact HB.out | apply below_alloc | apply pw_below_drewN | apply below_drew1 | refine below_set ?_ GE233.out) | exact HB.out)) hb); clear BK233; clear HB; have BK233 := n0_; have HB := n1_; clear n0_ n1_; (try clear hb); (try clear hb2); (try clear hk); (try clear hi); have hcz18_0 : w17.cell? ⟨gb233, 0, none⟩ = some (.slice A0_0 l0_0.length c0_0) := (blk_cell BK233.out 0).trans rfl; have hcz18_1 : w17.cell? ⟨gb233, 1, none⟩ = some (.string a0_1) := (blk_cell BK233.out 1).trans rfl; have hfz18_0 := blk_frozen BK233.out 0; have hfz18_1 := blk_frozen BK233.out 1) | ((with_reducible refine gate_callee (f := 18) rfl ?_); refine goesL_ (some 20) rfl rfl Tryz.func18 (by kernel_rfl) rfl #[.string a0_1] rfl (by (try simp only [List.map_toArray, List.map_cons, List.map_nil]); first | done | rfl | (simp only [List.length_drop, List.length_take]; rfl)) ?_; (with_reducible refine (bulletinref15_Body.calls k a0_1 t236 t237 _ A4.out).mono ?_); rintro e w19 ⟨rfl, hb⟩; refine ⟨_, rfl, ?_⟩; have n0_ := Aside0.mk (blk_below (g := gb233) (o := .cells #[.slice A0_0 l0_0.length c0_0, .string a0_1] 31 (0, 0)) (by (with_reducible repeat (first | refine blk_drewN ?_ _ | refine blk_drew ?_ | refine blk_alloc ?_ _)); exact BK233.out) hb); have n1_ := Aside0.mk (below_step (by repeat (first | (with_reducible first | exact HB.out | apply below_alloc | apply pw_below_drewN | apply below_drew1 | refine below_set ?_ GE233.out) | exact HB.out)) hb); clear BK233; clear HB; have BK233 := n0_; have HB := n1_; clear n0_ n1_; (try clear hb); (try clear hb2); (try clear hk); (try clear hi); have hcz20_0 : w19.cell? ⟨gb233, 0, none⟩ = some (.slice A0_0 l0_0.length c0_0) := (blk_cell BK233.out 0).trans rfl; have hcz20_1 : w19.cell? ⟨gb233, 1, none⟩ = some (.string a0_1) := (blk_cell BK233.out 1).trans rfl; have hfz20_0 := blk_frozen BK233.out 0; have hfz20_1 := blk_frozen BK233.out 1))
            go_ret2
            exact ⟨by first | rfl | (simp [errW_none, errW_some] <;> rfl) | (simp [*, errW_none, errW_some] <;> rfl), by repeat (first | (with_reducible first | exact HB.out | apply below_alloc | apply pw_below_drewN | apply below_drew1 | refine below_set ?_ GE233.out) | exact HB.out)⟩
          · rw [if_neg c14] at H
            exact absurd H (by simp)
        · rw [if_neg c13] at H
          exact absurd H (by simp)
    · rw [if_neg c5] at H
      have c5b0 : (t237 == 0) = false := beq_eq_false_iff_ne.mpr c5
      have c5b1 : (t237 != 0) = true := bne_iff_ne.mpr c5
      simp only [Option.some.injEq, Prod.mk.injEq] at H
      obtain ⟨rfl, rfl⟩ := H
      go_enter Tryz.func20, Tryz.ntmps20
      go_wp2_with (first | ((with_reducible refine gate_dst (N := 1) rfl ?_); refine box_event ?hg (N := 1) ?hd (cs := #[.slice A0_0 l0_0.length c0_0, .string a0_1]) (t := 31) ?hr ?_; (case hd => rfl); (case hg => rfl); (case hr => first | (go_simp; done) | (go_simp; rfl)); intro gb233 hg w21 hbox hb; have n0_ := Aside0.mk (below_step (by repeat (first | (with_reducible first | exact HB.out | apply below_alloc | apply pw_below_drewN | apply below_drew1) | exact HB.out)) hb); have n1_ := Aside0.mk (hbox); have n2_ := Aside0.mk ((by rw [hg]; exact (below_size (by repeat (first | (with_reducible first | exact HB.out | apply below_alloc | apply pw_below_drewN | apply below_drew1) | exact HB.out))) : w.heap.size ≤ gb233)); have n3_ := Aside0.mk ((by rw [hg]; exact (below_size (by repeat (first | (with_reducible first | exact HB.out | apply below_alloc | apply pw_below_drewN | apply below_drew1) | exact HB.out))) : w.heap.size ≤ gb233)); clear HB; have HB := n0_; have BK233 := n1_; have GW233 := n2_; have GE233 := n3_; clear n0_ n1_ n2_ n3_; clear hb hbox hg; have hcz22_0 : w21.cell? ⟨gb233, 0, none⟩ = some (.slice A0_0 l0_0.length c0_0) := (blk_cell BK233.out 0).trans rfl; have hcz22_1 : w21.cell? ⟨gb233, 1, none⟩ = some (.string a0_1) := (blk_cell BK233.out 1).trans rfl; have hfz22_0 := blk_frozen BK233.out 0; have hfz22_1 := blk_frozen BK233.out 1) | ((with_reducible refine gate_callee (f := 44) rfl ?_); refine goesL_ (some 11) rfl rfl Tryz.func44 (by kernel_rfl) rfl #[.slice A0_0 l0_0.length c0_0] rfl (by (try simp only [List.map_toArray, List.map_cons, List.map_nil]); first | done | rfl | (simp only [List.length_drop, List.length_take]; rfl)) ?_; (with_reducible refine (bulletinref09_Print.calls k _ _ l0_0 t234 t235 _ ?side1 ?side2 A2.out).mono ?_); (case side1 => repeat (first | exact (Kd.C_below HR0_0.out HB.out) | (with_reducible refine Kd.C_alloc ?_ _) | (with_reducible refine Kd.C_drewN ?_ _) | (with_reducible refine Kd.C_drew ?_))); (case side2 => exact HC0_0.out); rintro e w23 ⟨rfl, hb⟩; refine ⟨_, rfl, ?_⟩; have n0_ := Aside0.mk (blk_below (g := gb233) (o := .cells #[.slice A0_0 l0_0.length c0_0, .string a0_1] 31 (0, 0)) (by (with_reducible repeat (first | refine blk_drewN ?_ _ | refine blk_drew ?_ | refine blk_alloc ?_ _)); exact BK233.out) hb); have n1_ := Aside0.mk (below_step (by repeat (first | (with_reducible first | exact HB.out | apply below_alloc | apply pw_below_drewN | apply below_drew1 | refine below_set ?_ GE233.out) | exact HB.out)) hb); clear BK233; clear HB; have BK233 := n0_; have HB := n1_; clear n0_ n1_; (try clear hb); (try clear hb2); (try clear hk); (try clear hi); have hcz24_0 : w23.cell? ⟨gb233, 0, none⟩ = some (.slice A0_0 l0_0.length c0_0) := (blk_cell BK233.out 0).trans rfl; have hcz24_1 : w23.cell? ⟨gb233, 1, none⟩ = some (.string a0_1) := (blk_cell BK233.out 1).trans rfl; have hfz24_0 := blk_frozen BK233.out 0; have hfz24_1 := blk_frozen BK233.out 1) | ((with_reducible refine gate_callee (f := 18) rfl ?_); refine goesL_ (some 20) rfl rfl Tryz.func18 (by kernel_rfl) rfl #[.string a0_1] rfl (by (try simp only [List.map_toArray, List.map_cons, List.map_nil]); first | done | rfl | (simp only [List.length_drop, List.length_take]; rfl)) ?_; (with_reducible refine (bulletinref15_Body.calls k a0_1 t236 t237 _ A4.out).mono ?_); rintro e w25 ⟨rfl, hb⟩; refine ⟨_, rfl, ?_⟩; have n0_ := Aside0.mk (blk_below (g := gb233) (o := .cells #[.slice A0_0 l0_0.length c0_0, .string a0_1] 31 (0, 0)) (by (with_reducible repeat (first | refine blk_drewN ?_ _ | refine blk_drew ?_ | refine blk_alloc ?_ _)); exact BK233.out) hb); have n1_ := Aside0.mk (below_step (by repeat (first | (with_reducible first | exact HB.out | apply below_alloc | apply pw_below_drewN | apply below_drew1 | refine below_set ?_ GE233.out) | exact HB.out)) hb); clear BK233; clear HB; have BK233 := n0_; have HB := n1_; clear n0_ n1_; (try clear hb); (try clear hb2); (try clear hk); (try clear hi)))
      go_ret2
      exact ⟨by first | rfl | (simp [errW_none, errW_some] <;> rfl) | (simp [*, errW_none, errW_some] <;> rfl), by repeat (first | (with_reducible first | exact HB.out | apply below_alloc | apply pw_below_drewN | apply below_drew1 | refine below_set ?_ GE233.out) | exact HB.out)⟩
  · rw [if_neg c3] at H
    have c3b0 : (t235 == 0) = false := beq_eq_false_iff_ne.mpr c3
    have c3b1 : (t235 != 0) = true := bne_iff_ne.mpr c3
    simp only [Option.some.injEq, Prod.mk.injEq] at H
    obtain ⟨rfl, rfl⟩ := H
    go_enter Tryz.func20, Tryz.ntmps20
    go_wp2_with (first | ((with_reducible refine gate_dst (N := 1) rfl ?_); refine box_event ?hg (N := 1) ?hd (cs := #[.slice A0_0 l0_0.length c0_0, .string a0_1]) (t := 31) ?hr ?_; (case hd => rfl); (case hg => rfl); (case hr => first | (go_simp; done) | (go_simp; rfl)); intro gb233 hg w26 hbox hb; have n0_ := Aside0.mk (below_step (by repeat (first | (with_reducible first | exact HB.out | apply below_alloc | apply pw_below_drewN | apply below_drew1) | exact HB.out)) hb); have n1_ := Aside0.mk (hbox); have n2_ := Aside0.mk ((by rw [hg]; exact (below_size (by repeat (first | (with_reducible first | exact HB.out | apply below_alloc | apply pw_below_drewN | apply below_drew1) | exact HB.out))) : w.heap.size ≤ gb233)); have n3_ := Aside0.mk ((by rw [hg]; exact (below_size (by repeat (first | (with_reducible first | exact HB.out | apply below_alloc | apply pw_below_drewN | apply below_drew1) | exact HB.out))) : w.heap.size ≤ gb233)); clear HB; have HB := n0_; have BK233 := n1_; have GW233 := n2_; have GE233 := n3_; clear n0_ n1_ n2_ n3_; clear hb hbox hg; have hcz27_0 : w26.cell? ⟨gb233, 0, none⟩ = some (.slice A0_0 l0_0.length c0_0) := (blk_cell BK233.out 0).trans rfl; have hcz27_1 : w26.cell? ⟨gb233, 1, none⟩ = some (.string a0_1) := (blk_cell BK233.out 1).trans rfl; have hfz27_0 := blk_frozen BK233.out 0; have hfz27_1 := blk_frozen BK233.out 1) | ((with_reducible refine gate_callee (f := 44) rfl ?_); refine goesL_ (some 11) rfl rfl Tryz.func44 (by kernel_rfl) rfl #[.slice A0_0 l0_0.length c0_0] rfl (by (try simp only [List.map_toArray, List.map_cons, List.map_nil]); first | done | rfl | (simp only [List.length_drop, List.length_take]; rfl)) ?_; (with_reducible refine (bulletinref09_Print.calls k _ _ l0_0 t234 t235 _ ?side1 ?side2 A2.out).mono ?_); (case side1 => repeat (first | exact (Kd.C_below HR0_0.out HB.out) | (with_reducible refine Kd.C_alloc ?_ _) | (with_reducible refine Kd.C_drewN ?_ _) | (with_reducible refine Kd.C_drew ?_))); (case side2 => exact HC0_0.out); rintro e w28 ⟨rfl, hb⟩; refine ⟨_, rfl, ?_⟩; have n0_ := Aside0.mk (blk_below (g := gb233) (o := .cells #[.slice A0_0 l0_0.length c0_0, .string a0_1] 31 (0, 0)) (by (with_reducible repeat (first | refine blk_drewN ?_ _ | refine blk_drew ?_ | refine blk_alloc ?_ _)); exact BK233.out) hb); have n1_ := Aside0.mk (below_step (by repeat (first | (with_reducible first | exact HB.out | apply below_alloc | apply pw_below_drewN | apply below_drew1 | refine below_set ?_ GE233.out) | exact HB.out)) hb); clear BK233; clear HB; have BK233 := n0_; have HB := n1_; clear n0_ n1_; (try clear hb); (try clear hb2); (try clear hk); (try clear hi)))
    go_ret2
    exact ⟨by first | rfl | (simp [errW_none, errW_some] <;> rfl) | (simp [*, errW_none, errW_some] <;> rfl), by repeat (first | (with_reducible first | exact HB.out | apply below_alloc | apply pw_below_drewN | apply below_drew1 | refine below_set ?_ GE233.out) | exact HB.out)⟩

-- NOT PRINTED: function 5 (bulletinlaw15_ArticleLimits)

end Go.Proofs.YtfeciafdioepiaaGreatDoor.PA
