/- The contract of Names. -/
import Derived.Test.YtfeciafdioepiaaH16
import Derived.Maps.Own
import Derived.Maps.Views
import Derived.StringKeys
set_option linter.unusedVariables false
set_option linter.unusedSimpArgs false
namespace Go.Proofs.Ytfeciafdioepiaa
open Go.RowKit Go.Proofs Go.Proofs.YtfeciafdioepiaaW.PrintWords Go.Proofs.Ytfeciafdioepiaa.PA
open Go.Maps

/-- Is it one of them? -/
def memB (s : ByteArray) (l : List ByteArray) : Bool := l.any fun t => decide (s = t)
/-- The names that were met. -/
def namesGo : List S28 → List ByteArray → List ByteArray
  | [], seen => seen
  | x :: xs, seen => namesGo xs (if memB (lowerB x.f0) seen = true then seen else seen ++ [lowerB x.f0])
/-- The set of them, as the map reads. -/
def Dm (seen : List ByteArray) : DataW Unit := seen.foldl (fun D s => D.put (.string s.data.toList) (.lit (.bool true))) (.map [])
theorem Dm_snoc (seen : List ByteArray) (s : ByteArray) : Dm (seen ++ [s]) = (Dm seen).put (.string s.data.toList) (.lit (.bool true)) := by unfold Dm; rw [List.foldl_append]; rfl
theorem data_inj {a b : ByteArray} (h : a.data.toList = b.data.toList) : a = b := by rw [← mkS_data a, h, mkS_data]
theorem Dm_isMap (seen : List ByteArray) : IsMap (Dm seen) := by
  unfold Dm
  have key : ∀ (l : List ByteArray) (D : DataW Unit), IsMap D → IsMap (l.foldl (fun D s => D.put (.string s.data.toList) (.lit (.bool true))) D) := by
    intro l
    induction l with
    | nil => intro D h; exact h
    | cons s l ih => intro D h; exact ih _ (h.put _ _)
  exact key seen _ ⟨[], rfl⟩
theorem Dm_at (seen : List ByteArray) (s : ByteArray) : (Dm seen).atKey (.string s.data.toList) (.lit (.bool false)) = .lit (.bool (memB s seen)) := by
  have hk : ∀ l, WideAt.IsKeyLit (.string l) := fun l => by first | trivial | rfl | simp [WideAt.IsKeyLit]
  suffices h : ∀ (r : List ByteArray), (Dm r.reverse).atKey (.string s.data.toList) (.lit (.bool false)) = .lit (.bool (memB s r)) by
    have := h seen.reverse
    rw [List.reverse_reverse] at this
    rw [this]; unfold memB; rw [List.any_reverse]
  intro r
  induction r with
  | nil => rfl
  | cons t r ih =>
    rw [List.reverse_cons, Dm_snoc]
    by_cases e : s = t
    · subst e
      rw [atKey_put_same (Dm_isMap _) (hk _)]
      simp [memB]
    · rw [atKey_put_other (fun h => e (data_inj (by injection h)))]
      rw [ih]
      simp [memB, e]
theorem plainElem_bool_inv {P : Program} {e : TypeId} (he : P.underlying e = some .bool) {v : Value} {z : DataW Unit × List MemPlace} (h : plainElem P e v = some z) : ∃ c, v = .bool c ∧ z = (.lit (.bool c), []) := by
  unfold plainElem at h
  rw [he] at h
  cases v <;> simp at h
  obtain rfl := h
  exact ⟨_, rfl, rfl⟩
abbrev ownsSet (w : World) (b n : Nat) (seen : List ByteArray) : Prop := w.ownsMap Try.prog 9 (plainElem (H := Unit) Try.prog 4) b n (Dm seen)
theorem set_below {w w1 : World} {b n : Nat} {seen : List ByteArray} (h : ownsSet w b n seen) (hb : Below w.heap.size w w1) : ownsSet w1 b n seen := by
  have hlt := h.lt
  obtain ⟨es, clock, hm, F, hs, hD⟩ := h
  exact ⟨es, clock, (hb.block b hlt).trans hm, F, hs, hD⟩
theorem set_ne {α : Type} {d : Kd α} {e : Nat} {w : World} {base : Nat} {ok : Nat → Prop} {v : Value} {xs : List α} {b n : Nat} {seen : List ByteArray} (h : d.R e w base ok v xs) (hm : ownsSet w b n seen) : some b ≠ v.ownBlock := by
  intro he
  obtain ⟨_, _, _, q, _, cells, hc⟩ := (Kd.R_bound h).1 b he.symm
  obtain ⟨es, clock, hb, _⟩ := hm
  rw [hb] at hc
  cases hc
theorem R_set_kept {α : Type} {d : Kd α} {e : Nat} {w w1 : World} {base : Nat} {ok : Nat → Prop} {v : Value} {xs : List α} {b n : Nat} {seen : List ByteArray} (h : d.R e w base ok v xs) (hm : ownsSet w b n seen) (hg : w.grownBy w1 (some b)) : d.R e w1 base ok v xs :=
  Kd.R_mono (Kd.R_step (Kd.R_bound h) (fun k hk hlt => hg.block k hlt (fun he => by
    obtain ⟨_, _, _, q, _, cells, hc⟩ := hk
    injection he with he
    subst he
    obtain ⟨es, clock, hb, _⟩ := hm
    rw [hb] at hc
    cases hc))) (fun _ hk => hk.1)

set_option maxHeartbeats 2000000 in
set_option maxRecDepth 100000 in
theorem names_any (A : Option Addr) (c : Nat) (xs : List S28) (w : World) (hr : Kd.C k28 w A xs.length xs) (hc : xs.length ≤ c) (hN : xs.length ≤ 1000000) (hx : ∀ x ∈ xs, x.f0.size ≤ 140737488351232) :
    Calls Try.prog 33 #[.slice A xs.length c] w fun e w' => ∃ v : Value, e = .returned v ∧ Kd.R Kd.string 9 w' w.heap.size (fun _ => True) v (namesGo xs []) ∧ Below w.heap.size w w' := by
  have hmm := @run_makeMap Try.prog
  have hu28 := Try.underlying28
  have HR := Aside0.mk hr
  have HX := Aside0.mk hx
  have HM0 := Aside0.mk (show ownsSet (w.alloc (.map #[] 0)) w.heap.size 0 [] from World.ownsMap_made w Try.prog 9 _)
  have HB0 := Aside0.mk ((Below.refl w.heap.size w).alloc (Nat.le_refl _) (.map #[] 0))
  clear hr hx
  generalize hn : xs.length = n at *
  have Hn := Lib.hid hn
  clear hn
  go_enter Try.func33, Try.ntmps33
  go_wp2
  go_loopw [3, 11] (fun v3 v11 wr => ∃ (j : Nat) (seen : List ByteArray), j ≤ n ∧ v11 = .int .i64 j ∧ seen.length ≤ j ∧ Aside0 (namesGo (xs.drop j) seen = namesGo xs []) ∧ Aside0 (ownsSet wr w.heap.size j seen) ∧ Aside0 (Kd.R Kd.string 9 wr w.heap.size (fun _ => True) v3 seen) ∧ Aside0 (Below w.heap.size w wr)) (fun v3 v11 _ => n - (intOf v11).toNat)
  case atStart => exact ⟨0, [], Nat.zero_le _, rfl, by simp, ⟨rfl⟩, HM0, ⟨Kd.R_nil _ _ _ _ _⟩, HB0⟩
  case round =>
    obtain ⟨j, seen, hj, rfl, hsl, HE, HM, HV, HW⟩ := hrel
    by_cases hlt : j < n
    · have hjx : j < xs.length := by have := Hn.out; omega
      obtain ⟨ad, hA, hx0, hx1⟩ := at_T28 HR.out (j : Int) (by omega) (by omega)
      rw [Int.toNat_natCast] at hx0 hx1
      have hget : rd_T28 xs (j : Int) = xs[j] := by
        unfold rd_T28; rw [Int.toNat_natCast, List.getD_eq_getElem?_getD, List.getElem?_eq_getElem hjx]; rfl
      have hxs : (rd_T28 xs (j : Int)).f0.size ≤ 140737488351232 := HX.out _ (by rw [hget]; exact List.getElem_mem _)
      have hE := HE.out
      rw [List.drop_eq_getElem_cons hjx, ← hget] at hE
      generalize rd_T28 xs (j : Int) = x at *
      have hE2 : namesGo (xs.drop (j + 1)) (if memB (lowerB x.f0) seen = true then seen else seen ++ [lowerB x.f0]) = namesGo xs [] := hE
      have HE2 := Lib.hid hE2
      have hy0 := (HW.out.cell (World.block_lt_of_cell? w _ hx0)).trans hx0
      have hy1 := (HW.out.cell (World.block_lt_of_cell? w _ hx1)).trans hx1
      have HMa := Aside0.mk (show ownsSet (wr.alloc (.cells #[.string x.f0, .string x.f1] 28)) w.heap.size j seen from HM.out.alloc _)
      have HVa := Aside0.mk (Kd.R_alloc HV.out (.cells #[.string x.f0, .string x.f1] 28))
      have HWa := Aside0.mk (HW.out.alloc HW.out.size (.cells #[.string x.f0, .string x.f1] 28))
      have hls : (lowerB x.f0).size ≤ maxLen := by
        have : (lowerB x.f0).size = x.f0.size := by unfold lowerB; rw [mkS_size]; simp
        rw [this]; unfold maxLen; omega
      have Hkey := Lib.hid (show keyOf Try.prog 9 (.string (lowerB x.f0)) = some (.string (lowerB x.f0).data.toList) from Go.WideMaps.keyOf_string_mk Try.underlying9 hls)
      subst hA
      clear hget hE hE2 HE hx0 hx1
      go_wp2_with fail
      refine (lower_any x.f0 _ hxs).mono ?_
      rintro e w1 ⟨rfl, h1⟩
      have HM1 := Aside0.mk (set_below HMa.out h1)
      have HV1 := Aside0.mk (Kd.R_below HVa.out h1)
      have HW1 := Aside0.mk (HWa.out.trans (h1.mono HWa.out.size))
      obtain ⟨v, ps, hrun, hv⟩ := HM1.out.lookup (string_keyed Try.underlying9) Try.underlying85 (Try.zeroValue4 w1) (plainElem_bool Try.underlying4 false) Hkey.out
      obtain ⟨cb, rfl, hz⟩ := plainElem_bool_inv Try.underlying4 hv
      injection hz with hz _
      rw [Dm_at] at hz
      injection hz with hz
      injection hz with hz
      subst hz
      clear h1 hv HMa HVa HWa
      generalize hq : lowerB x.f0 = y at *
      rcases Bool.eq_false_or_eq_true (memB y seen) with hm | hm
      · have Hm := Lib.hid hm
        rw [hm] at hrun
        rw [hm, if_pos rfl] at HE2
        clear hm
        go_wp2
        go_roundw
        case rel => exact ⟨j + 1, seen, by omega, by go_num, by omega, ⟨HE2.out⟩, ⟨HM1.out.mono (by omega)⟩, HV1, HW1⟩
        case measure => simp [intOf]; omega
      · have Hm := Lib.hid hm
        rw [hm] at hrun
        rw [hm, if_neg (by simp)] at HE2
        clear hm
        go_wp2_with (at_mapUpdate; refine wpList_mapUpdate_own _ rfl _ _ _ 85 rfl 9 4 (string_keyed Try.underlying9) Try.underlying85 _ w.heap.size j _ rfl HM1.out (by unfold maxLen; omega) _ _ _ rfl rfl Hkey.out _ [] (plainElem_bool Try.underlying4 true) ?_)
        intro w2 hown2 hgrow2
        rw [← Dm_snoc] at hown2
        have HM2 := Aside0.mk (show ownsSet w2 w.heap.size (j + 1) (seen ++ [y]) from hown2)
        have HV2 := Aside0.mk (R_set_kept HV1.out HM1.out hgrow2)
        have HW2 := Aside0.mk (HW1.out.grown hgrow2 HW1.out.size (fun k hk => by injection hk with hk; subst hk; exact Nat.le_refl _))
        clear hown2 hgrow2 hrun
        go_wp2_with (at_builtin; refine Kd.R_append Kd.string (w0 := w) w.heap.size rfl (.tmp 24) (.tmp 26) 36 9 (.string ⟨#[]⟩) 16 rfl Try.underlying36 info9 rfl (by decide) (by omega) u3 seen y [.string y] (fun _ => True) (fun _ => False) rfl rfl rfl (fun _ hk => hk.elim) (fun _ _ => trivial) HV2.out HW2.out HW2.out.size (by omega) ?_)
        intro v3 w3 ho hbl hg _
        have HO := Aside0.mk ho
        have HBL := Aside0.mk hbl
        have HM3 := Aside0.mk (show ownsSet w3 w.heap.size (j + 1) (seen ++ [y]) from HM2.out.kept hg (set_ne HV2.out HM2.out))
        clear ho hbl hg
        go_wp2
        go_roundw
        case rel => exact ⟨j + 1, seen ++ [y], by omega, by go_num, by simp; omega, ⟨HE2.out⟩, HM3, HO, HBL⟩
        case measure => simp [intOf]; omega
    · have hE := HE.out
      rw [List.drop_eq_nil_of_le (by have := Hn.out; omega)] at hE
      have hE2 : seen = namesGo xs [] := hE
      have HV2 := Aside0.mk (show Kd.R Kd.string 9 wr w.heap.size (fun _ => True) u3 (namesGo xs []) by rw [← hE2]; exact HV.out)
      clear hE hE2 HV HE
      go_wp2
      go_ret
      exact ⟨u3, rfl, HV2.out, HW.out⟩
end Go.Proofs.Ytfeciafdioepiaa
