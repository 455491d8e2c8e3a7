/- Equal of two ropes, by a function that says whether two ints are equal. -/
import Derived.Test.YtlopceimlipemaaRHelp
import Derived.Deep.RegionHeld3
namespace Go.Proofs.Ytlopceimlipemaa.Rope
open Go.RowKit Go.Proofs.YtlopceimlipemaaW.PrintWords Go.Proofs.YtlopceimlipemaaW.PrintLast Go.Proofs.YtlopceimlipemaaW.PrintMore Go.Shelf
set_option linter.unusedVariables false
set_option linter.unusedSimpArgs false
attribute [local go_sem] Oper.semAt_some

theorem leave0 {P : Program} {fn : Func} {tmps : Array Value} {R : Ending → World → Prop} {W : World} {v : Value} (hr : (results fn tmps).run P W = .ok v W) (h : R (.returned v) W) : noPanic (bodyPostM Fence.wide 9 P fn R) .ret { tmps := tmps, defers := [] } W := ⟨_, hr, h⟩
theorem leave1c {P : Program} {fn : Func} {tmps : Array Value} {R : Ending → World → Prop} {D : Nat} {W : World} {v : Value} (hk : W.heap[D]? = some (.deferred (some [])))
    (hr : (results fn tmps).run P (W.putObj D (.deferred none)) = .ok v (W.putObj D (.deferred none))) (h : R (.returned v) (W.putObj D (.deferred none))) :
    LeavesInM Fence.wide 9 P fn tmps R [{ target := .collected D, args := #[] }] .returning W :=
  ⟨by simp, .inl ⟨_, _, rfl, run_takeDeferred hk, _, hr, h⟩⟩
theorem callsIn_round {lp m : Nat} {P : Program} {f : FuncId} {args : Array Value} {w : World} {R : Ending → World → Prop} (h : Calls P f args w R) : Fence.wide.fn f ∧ CallsIn (Fence.wide.inRound lp) m P f args w R := by
  have h2 : CallsIn Fence.wide m P f args w R := callsIn_wide.2 h
  exact ⟨trivial, h2⟩
theorem keepsOthers_below {W W' : World} (h : Below W.heap.size W W') : KeepsOthers W W' := ⟨h.size, fun k o hk _ => (h.block k (Array.getElem?_eq_some_iff.1 hk).1).trans hk⟩
theorem At_any.calls (p : Option Addr) (i : Int) (t : Option (Tr Int)) (w : World) (h : IsO K_int w p t) (hs : lenO t ≤ 4611686018427387904) :
    Calls Try.prog 15 #[.agg #[.pointer p], .int .i64 i] w fun e w' => ∃ (v : Int) (b : Bool), e = .returned (.tuple #[.int .i64 v, .bool b]) ∧ (∀ (j : Nat) (x : Int), i = j → (listO t)[j]? = some x → v = x) ∧ Below w.heap.size w w' := by
  by_cases hi : i < 0 ∨ (lenO t : Int) ≤ i
  · refine (At0_int.calls p i t w h hs hi).mono ?_
    rintro e w' ⟨rfl, hb⟩
    refine ⟨0, false, rfl, fun j x hj hx => ?_, hb⟩
    have := (List.getElem?_eq_some_iff.1 hx).1
    rw [listO_len] at this
    omega
  · obtain ⟨t, rfl⟩ := some_of_len t (by omega)
    obtain ⟨j, rfl⟩ := Int.eq_ofNat_of_zero_le (show 0 ≤ i by omega)
    have hj : j < t.list.length := by rw [t.list_len]; have : lenO (some t) = t.len := rfl; omega
    refine (At1_int.calls p j t w h hs t.list[j] (List.getElem?_eq_getElem hj)).mono ?_
    rintro e w' ⟨rfl, hb⟩
    refine ⟨_, true, rfl, fun j' x hj' hx => ?_, hb⟩
    have : j = j' := by omega
    subst this
    have hx' : t.list[j]? = some x := hx
    rw [List.getElem?_eq_getElem hj] at hx'
    exact Option.some.inj hx'
theorem same.calls (a b : Int) (w : World) : Calls Try.prog 23 #[.int .i64 a, .int .i64 b] w fun e w' => e = .returned (.bool (a == b)) ∧ w' = w := by
  go_enter Try.func23, Try.ntmps23
  go_wp2
  go_ret
  exact ⟨rfl, rfl⟩
theorem snd_prefix {pre : List (Int × Int)} {T : Option (Tr Int)} (h : pre <+: itemsO_int 0 false T) : pre.map Prod.snd = (listO T).take pre.length := by
  obtain ⟨r, hr⟩ := h
  have h2 : (itemsO_int 0 false T).map Prod.snd = listO T := by
    have : ∀ (f : Int) (l : List Int), (idx_int f l).map Prod.snd = l := by
      intro f l
      induction l generalizing f with
      | nil => rfl
      | cons x r ih => simp [idx_int, ih]
    exact this 0 (listO T)
  rw [← h2, ← hr]
  simp

set_option maxRecDepth 100000 in
set_option maxHeartbeats 4000000 in
theorem Equal.calls (p q : Option Addr) (T S : Option (Tr Int)) (w : World) (hT : IsO K_int w p T) (hS : IsO K_int w q S) (h1 : lenO T ≤ 4611686018427387904) (h2 : lenO S ≤ 4611686018427387904) :
    Calls Try.prog 24 #[.agg #[.pointer p], .agg #[.pointer q], .func (.func 23) #[] #[]] w fun e w' => e = .returned (.bool (decide (listO T = listO S))) ∧ Below w.heap.size w w' := by
  obtain ⟨r, hr⟩ : ∃ r, r = decide (listO T = listO S) := ⟨_, rfl⟩
  rw [← hr]
  have HR := Aside0.mk hr
  clear hr
  obtain ⟨k0, k1, k2, k3, hbl⟩ := alloc4 w (.cells #[.pointer p] 26) (.cells #[.pointer q] 26) (.cells #[.func (.func 23) #[] #[]] 44) (.cells #[.bool false] 4)
  obtain ⟨W0, hW0⟩ : ∃ W, (((w.alloc (.cells #[.pointer p] 26)).alloc (.cells #[.pointer q] 26)).alloc (.cells #[.func (.func 23) #[] #[]] 44)).alloc (.cells #[.bool false] 4) = W := ⟨_, rfl⟩
  have HW0 := Aside0.mk hW0
  rw [hW0] at k0 k1 k2 k3 hbl
  have K2 := Aside0.mk k2
  have K3 := Aside0.mk k3
  have HB := Aside0.mk hbl
  have x0 : W0.cell? ⟨w.heap.size, 0, none⟩ = some (.pointer p) := (blk_cell k0 0).trans rfl
  have x1 : W0.cell? ⟨w.heap.size + 1, 0, none⟩ = some (.pointer q) := (blk_cell k1 0).trans rfl
  have T0 := Aside0.mk (hT.below hbl)
  have S0 := Aside0.mk (hS.below hbl)
  have H1 := Aside0.mk h1
  have H2 := Aside0.mk h2
  clear k0 k1 k2 k3 hbl hW0 hT hS h1 h2
  refine calls_of_wp_marks Try.func24 rfl ?_
  simp only [Try.ntmps24, List.size_toArray, List.length_cons, List.length_nil, Nat.reduceAdd, Nat.reduceSub, Array.replicate_succ, Array.replicate_zero, List.push_toArray, List.append_toArray, List.nil_append, List.cons_append]
  obtain ⟨n, hn⟩ : ∃ n, n = lenO T := ⟨_, rfl⟩
  obtain ⟨m, hm⟩ : ∃ m, m = lenO S := ⟨_, rfl⟩
  have HN := Aside0.mk hn
  have HM := Aside0.mk hm
  clear hn hm
  go_wp2_with fail
  rw [HW0.out]
  clear HW0
  go_region_held3 (fun W' => Below W0.heap.size W0 W' ∧ W'.cell? ⟨w.heap.size, 0, none⟩ = some (.pointer p) ∧ W'.cell? ⟨w.heap.size + 1, 0, none⟩ = some (.pointer q))
    (first | exact ⟨below_drew (Below.refl _ _), x0, x1⟩ | (go_split_ands; exact ⟨below_step (by assumption) hb1, pw_cell_below hb1 (by assumption), pw_cell_below hb1 (by assumption)⟩))
    (first
      | (go_at_call 28; go_split_ands; with_reducible refine (Len_int.calls p T _ (IsO.below (by assumption) T0.out) H1.out).mono ?_; rintro e W1 ⟨rfl, hb1⟩; rw [← HN.out])
      | (go_at_call 28; go_split_ands; with_reducible refine (Len_int.calls q S _ (IsO.below (by assumption) S0.out) H2.out).mono ?_; rintro e W1 ⟨rfl, hb1⟩; rw [← HM.out]))
  have hB1 : Below W0.heap.size W0 W1 := by go_split_ands; assumption
  have z0 : W1.cell? ⟨w.heap.size, 0, none⟩ = some (.pointer p) := by go_split_ands; assumption
  have z1 : W1.cell? ⟨w.heap.size + 1, 0, none⟩ = some (.pointer q) := by go_split_ands; assumption
  have hs1 : w.heap.size + 4 ≤ W1.heap.size := by have h1 := hB1.size; have h2 := (Array.getElem?_eq_some_iff.1 K3.out).1; omega
  have Z0 := Aside0.mk z0
  have Z1 := Aside0.mk z1
  have Z2 : Aside0 (W1.heap[w.heap.size + 2]? = some (.cells #[.func (.func 23) #[] #[]] 44 (0, 0))) := ⟨(hB1.block _ (by have h2 := (Array.getElem?_eq_some_iff.1 K3.out).1; omega)).trans K2.out⟩
  have Z3 : Aside0 (W1.heap[w.heap.size + 3]? = some (.cells #[.bool false] 4 (0, 0))) := ⟨(hB1.block _ (by have h2 := (Array.getElem?_eq_some_iff.1 K3.out).1; omega)).trans K3.out⟩
  have B1 := Aside0.mk (HB.out.trans (hB1.mono HB.out.size))
  have T1 := Aside0.mk (T0.out.below hB1)
  have S1 := Aside0.mk (S0.out.below hB1)
  have y3 := (blk_cell Z3.out 0).trans rfl
  have f3 := blk_frozen Z3.out 0
  clear x0 x1 z1
  by_cases hnm : n = m
  case neg =>
    have e1 : ((n : Int) != (m : Int)) = true := by simp; omega
    have e1' : (n != m) = true := by simp; omega
    have hne : decide (listO T = listO S) = false := by
      simp only [decide_eq_false_iff_not]
      intro h
      have := congrArg List.length h
      rw [listO_len, listO_len, ← HN.out, ← HM.out] at this
      exact hnm this
    have hrf : r = false := HR.out.trans hne
    have HRF := Aside0.mk hrf
    clear hne hnm hrf
    go_wp2_with fail
    have hc := (blk_cell (set_heap (u := .bool false) Z3.out) 0).trans rfl
    refine leave0 (v := .bool false) ?_ ?_
    · simp [results, Try.results24, go_sem, hc]
    · exact ⟨by rw [HRF.out], B1.out.setCell (p := ⟨w.heap.size + 1 + 1 + 1, 0, none⟩) (by show _ ≤ w.heap.size + 1 + 1 + 1; omega) _⟩
  case pos =>
    subst hnm
    have e1 : ((n : Int) != (n : Int)) = false := by simp
    have e1' : (n != n) = false := by simp
    go_wp2_with (go_at_call 13; refine (All_int.calls p _).mono ?_; rintro e w' ⟨rfl, rfl⟩)
    have k0 := heap_new W1 (.cells #[.pointer p] 26)
    have hbl : Below W1.heap.size W1 (W1.alloc (.cells #[.pointer p] 26)) := (Below.refl _ _).alloc (Nat.le_refl _) _
    obtain ⟨Wl, hWl⟩ : ∃ Wl, W1.alloc (.cells #[.pointer p] 26) = Wl := ⟨_, rfl⟩
    rw [hWl] at k0 hbl ⊢
    have HSZL : Aside0 (Wl.heap.size = W1.heap.size + 1) := ⟨by rw [← hWl]; simp⟩
    clear hWl z0 e1 e1' y3 f3
    · refine rangeAll_int W1 hbl W1.heap.size p T T1.out H1.out ((blk_cell k0 0).trans rfl) rfl
        (fun pre W => Below W1.heap.size W1 W ∧ (pre <+: itemsO_int 0 false T → pre.map Prod.snd = (listO S).take pre.length))
        (fun c pre W => (c = .ret ∧ (pre <+: itemsO_int 0 false T → pre.map Prod.snd ≠ (listO S).take pre.length)) ∧ (W.heap[w.heap.size + 3]? = some (.cells #[.bool false] 4 (0, 0)) ∧ Below w.heap.size w W))
        ?hI ?hIx ⟨hbl, by simp⟩
        ?a1 ?assign ?body ?done ?stop
      case assign =>
        intro lp x W K hK
        gi_wp2
        exact hK
      case hI => exact OwnFrom.and (ownFrom_below (Nat.le_refl _) hbl.size) (ownFrom_pure _ _)
      case hIx =>
        intro c
        exact OwnFrom.and (ownFrom_pure _ _) (OwnFrom.and (fun s W W' row hs hg hr => (hg.block _ (Array.getElem?_eq_some_iff.1 hs).1 (fun e => by have := (hr _ e.symm).1; have := HSZL.out; omega)).trans hs) (ownFrom_below (Nat.le_refl _) (by have := HSZL.out; omega)))
      case body =>
        rintro lp pre x W ⟨hB, hp⟩ hlt
        have hsW : W1.heap.size ≤ W.heap.size := hB.size
        have c1 : W.cell? ⟨w.heap.size + 1, 0, none⟩ = some (.pointer q) := (hB.cell (by show w.heap.size + 1 < _; omega)).trans Z1.out
        obtain ⟨x1, x2⟩ := x
        have HBW := Aside0.mk hB
        have HP := Aside0.mk hp
        have HLT := Aside0.mk hlt
        clear hB hp hlt
        gi_wp2_with fail
        refine callsIn_round ((At_any.calls q x1 S W (S1.out.below HBW.out) H2.out).mono ?_)
        rintro e W2 ⟨v, b, rfl, hv, hb2⟩
        have hs2 : W.heap.size ≤ W2.heap.size := hb2.size
        have hK2 : Below W1.heap.size W1 W2 := HBW.out.trans (hb2.mono hsW)
        have c2 : W2.cell? ⟨w.heap.size + 1 + 1, 0, none⟩ = some (.func (.func 23) #[] #[]) := (hK2.cell (by show w.heap.size + 1 + 1 < _; omega)).trans ((blk_cell Z2.out 0).trans rfl)
        have c3 : W2.cell? ⟨w.heap.size + 1 + 1 + 1, 0, none⟩ = some (.bool false) := (hK2.cell (by show w.heap.size + 1 + 1 + 1 < _; omega)).trans ((blk_cell Z3.out 0).trans rfl)
        have f3 : W2.frozen? ⟨w.heap.size + 1 + 1 + 1, 0, none⟩ = false := blk_frozen ((hK2.block _ (by omega)).trans Z3.out) 0
        have HV := Aside0.mk hv
        have HB2 := Aside0.mk hb2
        have HK2 := Aside0.mk hK2
        clear hv hb2 hK2 c1
        gi_wp2_with fail
        refine callsIn_round ((same.calls x2 v W2).mono ?_)
        rintro e W3 ⟨rfl, rfl⟩
        have hnext : ∀ (hpre : pre ++ [(x1, x2)] <+: itemsO_int 0 false T), pre <+: itemsO_int 0 false T ∧ (listO S).take (pre ++ [(x1, x2)]).length = (listO S).take pre.length ++ [v] := by
          intro hpre
          have h1 : pre <+: itemsO_int 0 false T := (List.prefix_append pre [(x1, x2)]).trans hpre
          have hl : pre.length < (listO T).length := by have := hpre.length_le; rw [show (itemsO_int 0 false T).length = (listO T).length from items_len_int _ _ _] at this; simp at this; omega
          obtain ⟨j, u, hj, hjl, hju, hpx⟩ := items_next false (listO T) T rfl pre (x1, x2) h1 hl
          simp only [Bool.false_eq_true, if_false] at hj
          have hx := hpx.1 hpre
          have hx1 : x1 = (j : Int) := congrArg Prod.fst hx
          have hjS : j < (listO S).length := by rw [listO_len, ← HM.out, HN.out, ← listO_len]; exact hjl
          have hvv := HV.out j _ hx1 (List.getElem?_eq_getElem hjS)
          refine ⟨h1, ?_⟩
          rw [List.length_append, List.length_singleton, ← hj, List.take_succ_eq_append_getElem hjS, hvv]
        have HNX := Aside0.mk hnext
        clear hnext
        by_cases hxv : x2 = v
        · have e1 : (x2 == v) = true := by simp; exact hxv
          have HXV := Aside0.mk hxv
          clear hxv
          gi_wp2_with fail
          refine ⟨keepsOthers_below HB2.out, KeepC.ofBelow HB2.out hsW, HK2.out, fun hpre => ?_⟩
          obtain ⟨g1, g2⟩ := HNX.out hpre
          rw [g2, List.map_append, HP.out g1, ← HXV.out]
          rfl
        · have e1 : (x2 == v) = false := by simp; exact hxv
          have HXV := Aside0.mk hxv
          clear hxv
          gi_wp2_with fail
          refine ⟨(keepsOthers_below HB2.out).trans (KeepsOthers.setCell _ _ _), ⟨by simp, fun hpre heq => ?_⟩, ?_, ?_⟩
          · obtain ⟨g1, g2⟩ := HNX.out hpre
            rw [g2, List.map_append, HP.out g1] at heq
            have := List.append_cancel_left heq
            simp at this
            exact HXV.out this
          · exact set_heap ((HK2.out.block _ (by omega)).trans Z3.out)
          · exact (B1.out.trans (HK2.out.mono (by omega))).setCell (p := ⟨w.heap.size + 1 + 1 + 1, 0, none⟩) (by show _ ≤ w.heap.size + 1 + 1 + 1; omega) _
      case done =>
        rintro D W hD ⟨hB, hp⟩ hK
        have hr : r = true := by
          rw [HR.out, decide_eq_true_eq]
          have h1 := hp (List.prefix_refl _)
          rw [snd_prefix (List.prefix_refl _)] at h1
          have h2 : (itemsO_int 0 false T).length = (listO T).length := items_len_int _ _ _
          rw [h2, List.take_length] at h1
          rw [h1, show (listO T).length = (listO S).length by rw [listO_len, listO_len, ← HN.out, ← HM.out], List.take_length]
        have hsW : W1.heap.size < W.heap.size := by have := (Array.getElem?_eq_some_iff.1 hK).1; have := HSZL.out; omega
        have M3 : W.heap[w.heap.size + 1 + 1 + 1]? = some (.cells #[.bool false] 4 (0, 0)) := (hB.block _ (by omega)).trans Z3.out
        have c3 := (blk_cell M3 0).trans rfl
        have f3 := blk_frozen M3 0
        have M3' := Aside0.mk M3
        have HRT := Aside0.mk hr
        have HKD := Aside0.mk hK
        have HBW := Aside0.mk hB
        clear hr hK hB M3 hp
        go_wp2
        obtain ⟨W8, hW8⟩ : ∃ W8, W.setCell ⟨w.heap.size + 1 + 1 + 1, 0, none⟩ (.bool true) = W8 := ⟨_, rfl⟩
        have hds := HSZL.out
        have h8 : W8.heap[w.heap.size + 1 + 1 + 1]? = some (.cells #[.bool true] 4 (0, 0)) := by rw [← hW8]; exact set_heap M3'.out
        have g1 : W8.heap[D]? = some (.deferred (some [])) := by rw [← hW8]; exact (Below.heap_setCell W ⟨w.heap.size + 1 + 1 + 1, 0, none⟩ _ D (by show D ≠ w.heap.size + 1 + 1 + 1; omega)).trans HKD.out
        have hB8 : Below w.heap.size w W8 := by
          rw [← hW8]
          exact (B1.out.trans (HBW.out.mono (by omega))).setCell (p := ⟨w.heap.size + 1 + 1 + 1, 0, none⟩) (by show _ ≤ w.heap.size + 1 + 1 + 1; omega) _
        rw [hW8]
        have hc9 : (W8.putObj D (.deferred none)).cell? ⟨w.heap.size + 1 + 1 + 1, 0, none⟩ = some (.bool true) := (blk_cell ((World.putObj_heap_other (by omega)).trans h8) 0).trans rfl
        refine leave1c (v := .bool true) g1 (by simp [results, Try.results24, go_sem, hc9]) ⟨by rw [HRT.out], putObj_below hB8 D _ (by omega) hB8.size⟩
      case stop =>
        rintro D c pre W hD hpre ⟨⟨rfl, hn⟩, hW3, hbw⟩ hK
        have hr : r = false := by
          rw [HR.out, decide_eq_false_iff_not]
          intro he
          apply hn hpre
          rw [snd_prefix hpre, he]
        have hds := HSZL.out
        have HRF := Aside0.mk hr
        have HKD := Aside0.mk hK
        have HW3 := Aside0.mk hW3
        have HBW := Aside0.mk hbw
        clear hr hK hW3 hbw hn
        go_wp2
        have hc9 : (W.putObj D (.deferred none)).cell? ⟨w.heap.size + 1 + 1 + 1, 0, none⟩ = some (.bool false) := (blk_cell ((World.putObj_heap_other (by omega)).trans HW3.out) 0).trans rfl
        refine leave1c (v := .bool false) HKD.out (by simp [results, Try.results24, go_sem, hc9]) ⟨by rw [HRF.out], putObj_below HBW.out D _ (by omega) HBW.out.size⟩

end Go.Proofs.Ytlopceimlipemaa.Rope
