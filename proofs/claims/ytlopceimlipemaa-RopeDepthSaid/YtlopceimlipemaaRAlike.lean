import Derived.Test.YtlopceimlipemaaRHelp
import Derived.Test.YtlopceimlipemaaRQx1
import Derived.Deep.RegionHeld3
namespace Go.Proofs.Ytlopceimlipemaa.Rope
open Go.RowKit Go.Proofs.YtlopceimlipemaaW.PrintWords Go.Proofs.YtlopceimlipemaaW.PrintLast Go.Proofs.YtlopceimlipemaaW.PrintMore Go.Shelf
set_option linter.unusedVariables false
set_option linter.unusedSimpArgs false
attribute [local go_sem] Oper.semAt_some
/-- The indices that are asked for. -/
def ixv (n k : Nat) : Int := if k = 0 then -1 else if k = 1 then 0 else if k = 2 then (n : Int) / 2 else if k = 3 then (n : Int) - 1 else (n : Int)
theorem ix_cell {W : World} {b n k : Nat} {t : TypeId} (h : W.heap[b]? = some (.cells #[.int .i64 (-1), .int .i64 0, .int .i64 ((n : Int) / 2), .int .i64 ((n : Int) - 1), .int .i64 (n : Int)] t (0, 0))) (hk : k < 5) : W.cell? ⟨b, k, none⟩ = some (.int .i64 (ixv n k)) := by
  have hc : k = 0 ∨ k = 1 ∨ k = 2 ∨ k = 3 ∨ k = 4 := by omega
  rcases hc with rfl | rfl | rfl | rfl | rfl
  · exact (blk_cell h 0).trans rfl
  · exact (blk_cell h 1).trans rfl
  · exact (blk_cell h 2).trans rfl
  · exact (blk_cell h 3).trans rfl
  · exact (blk_cell h 4).trans rfl
set_option maxRecDepth 100000 in
set_option maxHeartbeats 4000000 in
theorem alike.calls (p : Option Addr) (T : Option (Tr Int)) (A : Option Addr) (n c : Nat) (l : List Int) (w : World) (hO : IsO K_int w p T) (hT : listO T = l) (hl : l.length = n) (hC : D_int.C w A n l) (hc : n ≤ c) (hn : n * 8 ≤ 140737488351232) :
    Calls Try.prog 17 #[.agg #[.pointer p], .slice A n c] w fun e w' => e = .returned (.bool true) ∧ Below w.heap.size w w' := by
  have hTl : lenO T = n := by rw [← listO_len, hT, hl]
  have HN := Aside0.mk hl
  have HC := Aside0.mk hC
  have HTL := Aside0.mk hTl
  have HTI := Aside0.mk hT
  have HO := Aside0.mk hO
  obtain ⟨k0, k1, k2, hbl⟩ := alloc3 w (.cells #[.pointer p] 26) (.cells #[.slice A n c] 22) (.cells #[.bool false] 4)
  obtain ⟨W0, hW0⟩ : ∃ W, ((w.alloc (.cells #[.pointer p] 26)).alloc (.cells #[.slice A n c] 22)).alloc (.cells #[.bool false] 4) = W := ⟨_, rfl⟩
  have HW0 := Aside0.mk hW0
  clear hl hC hTl hT hO
  refine calls_of_wp_marks Try.func17 rfl ?_
  simp only [Try.ntmps17, List.size_toArray, List.length_cons, List.length_nil, Nat.reduceAdd, Nat.reduceSub, Array.replicate_succ, Array.replicate_zero, List.push_toArray, List.append_toArray, List.nil_append, List.cons_append]
  rw [hW0] at k0 k1 k2 hbl
  have K0 := Aside0.mk k0
  have K1 := Aside0.mk k1
  have K2 := Aside0.mk k2
  have HB := Aside0.mk hbl
  clear k0 k1 k2 hbl hW0
  go_wp2_with fail
  rw [HW0.out]
  clear HW0
  have x0 : W0.cell? ⟨w.heap.size, 0, none⟩ = some (.pointer p) := (blk_cell K0.out 0).trans rfl
  have x1 : W0.cell? ⟨w.heap.size + 1, 0, none⟩ = some (.slice A n c) := (blk_cell K1.out 0).trans rfl
  have O0 := Aside0.mk (HO.out.below HB.out)
  have C0 := Aside0.mk (Kd.C_below HC.out HB.out)
  have hll : lenO T ≤ 4611686018427387904 := by have := HTL.out; omega
  have hl8 : lenO T * 8 ≤ 140737488351232 := by have := HTL.out; omega
  have hne : ((n : Int) != (n : Int)) = false := by simp
  have HL1 := Aside0.mk hll
  have HL8 := Aside0.mk hl8
  have HN4 : Aside0 (n ≤ 4611686018427387904) := ⟨by omega⟩
  clear hll hl8
  go_region_held3 (fun W' => Below W0.heap.size W0 W' ∧ W'.cell? ⟨w.heap.size, 0, none⟩ = some (.pointer p) ∧ W'.cell? ⟨w.heap.size + 1, 0, none⟩ = some (.slice A n c))
    (first | exact ⟨below_drew (Below.refl _ _), x0, x1⟩ | (go_split_ands; exact ⟨below_step (by assumption) hb1, pw_cell_below hb1 (by assumption), pw_cell_below hb1 (by assumption)⟩))
    (first
      | (go_at_call 28; go_split_ands; refine (Len_int.calls p T _ (IsO.below (by assumption) O0.out) HL1.out).mono ?_; rintro e W1 ⟨rfl, hb1⟩; rw [HTL.out])
      | (go_at_call 26; go_split_ands; refine (List_int.calls p T _ (IsO.below (by assumption) O0.out) HL8.out).mono ?_; rintro e W1 ⟨v1, rfl, hr1, _, hb1⟩; rw [HTI.out, HN.out] at hr1; obtain ⟨A1, c1, rfl, hc1, hC1⟩ := own_C_int hr1 HN.out)
      | (go_at_call 25; go_split_ands; refine (sEq_int.calls _ _ n l A _ _ l _ (by assumption) HN.out (by assumption) (Kd.C_below C0.out (by assumption)) HN.out hc HN4.out).mono ?_; rintro e W1 ⟨rfl, hb1⟩; rw [show decide (l = l) = true by simp]))
  have hB1 : Below W0.heap.size W0 W1 := by go_split_ands; assumption
  have z0 : W1.cell? ⟨w.heap.size, 0, none⟩ = some (.pointer p) := by go_split_ands; assumption
  have z1 : W1.cell? ⟨w.heap.size + 1, 0, none⟩ = some (.slice A n c) := by go_split_ands; assumption
  have hs1 : w.heap.size + 3 ≤ W1.heap.size := by have h1 := hB1.size; have h2 := (Array.getElem?_eq_some_iff.1 K2.out).1; omega
  have Z0 := Aside0.mk z0
  have y0 : (W1.alloc (.cells #[.int .i64 0] 3)).cell? ⟨w.heap.size, 0, none⟩ = some (.pointer p) := pw_cell_below ((Below.refl _ W1).alloc (Nat.le_refl _) _) z0
  have Z1 := Aside0.mk z1
  have Z2 : Aside0 (W1.heap[w.heap.size + 2]? = some (.cells #[.bool false] 4 (0, 0))) := ⟨(hB1.block _ (by have h2 := (Array.getElem?_eq_some_iff.1 K2.out).1; omega)).trans K2.out⟩
  have B1 := Aside0.mk (HB.out.trans (hB1.mono HB.out.size))
  have O1 := Aside0.mk (HO.out.below HB.out |>.below hB1)
  clear x0 x1
  go_upto_block 0 with (first | (go_at_call 13; refine (All_int.calls p _).mono ?_; rintro e w' ⟨rfl, rfl⟩) | (go_at_call 12; refine (over_int.calls _ _ _).mono ?_; rintro e w' ⟨rfl, rfl⟩))
  obtain ⟨k0, k1, hbl⟩ := alloc2 W1 (.cells #[.int .i64 0] 3) (.cells #[.pointer p] 26)
  obtain ⟨Wl, hWl⟩ : ∃ Wl, (W1.alloc (.cells #[.int .i64 0] 3)).alloc (.cells #[.pointer p] 26) = Wl := ⟨_, rfl⟩
  rw [hWl] at k0 k1 hbl ⊢
  have HSZL : Aside0 (Wl.heap.size = W1.heap.size + 2) := ⟨by rw [← hWl]; simp⟩
  clear hWl z0 z1 y0
  refine mark_cut (fun D W => Wl.heap.size ≤ D ∧ W.heap[D]? = some (.deferred (some [])) ∧ W.heap[W1.heap.size]? = some (.cells #[.int .i64 (n : Int)] 3 (0, 0)) ∧ Below W1.heap.size W1 W) ?first ?rest
  case first =>
    go_wp2_with fail
    refine rangeAll_int W1 hbl (W1.heap.size + 1) p T O1.out (by have := HTL.out; omega) ((blk_cell k1 0).trans rfl) rfl
      (fun pre W => W.heap[W1.heap.size]? = some (.cells #[.int .i64 (pre.length : Int)] 3 (0, 0)) ∧ Below W1.heap.size W1 W ∧ pre <+: itemsO_int 0 false T)
      (fun c pre W => c = .ret ∧ ¬ pre <+: itemsO_int 0 false T)
      ?hI ?hIx ⟨k0, hbl, List.nil_prefix⟩
      ?a1 ?assign ?body ?done ?stop
    case assign =>
      intro lp x W K hK
      gi_wp2
      exact hK
    case hI => exact OwnFrom.and (ownFrom_blk _ _ (fun pre : List (Int × Int) => #[.int .i64 (pre.length : Int)]) _) (OwnFrom.and (ownFrom_below (Nat.le_refl _) hbl.size) (ownFrom_pure _ _))
    case hIx =>
      intro c
      exact OwnFrom.and (ownFrom_pure _ _) (ownFrom_pure _ _)
    case body =>
      rintro lp pre x W ⟨hk, hB, hp⟩ hlt
      have hlt' : pre.length < n := by have := HTL.out; omega
      obtain ⟨j, v, hj, hjl, hjv, hpx⟩ := items_next false l T HTI.out pre x hp (by rw [HN.out]; exact hlt')
      simp only [Bool.false_eq_true, if_false] at hj
      rw [← hj] at hlt' hk
      have hs0 : W1.heap.size < W.heap.size := (Array.getElem?_eq_some_iff.1 hk).1
      have c1 : W.cell? ⟨w.heap.size + 1, 0, none⟩ = some (.slice A n c) := (hB.cell (by show w.heap.size + 1 < _; omega)).trans Z1.out
      have c2 : W.cell? ⟨W1.heap.size, 0, none⟩ = some (.int .i64 (j : Int)) := (blk_cell hk 0).trans rfl
      have f2 : W.frozen? ⟨W1.heap.size, 0, none⟩ = false := blk_frozen hk 0
      have c3 : W.cell? ⟨w.heap.size + 1 + 1, 0, none⟩ = some (.bool false) := (hB.cell (by show w.heap.size + 1 + 1 < _; omega)).trans ((blk_cell Z2.out 0).trans rfl)
      have f3 : W.frozen? ⟨w.heap.size + 1 + 1, 0, none⟩ = false := blk_frozen ((hB.block _ (by omega)).trans Z2.out) 0
      obtain ⟨ad, had, hcx⟩ : ∃ ad, A = some ad ∧ W.cell? (ad.add j) = some (.int .i64 v) := by
        obtain ⟨ad, e1, e2⟩ := C_cells_int (show D_int.C W A l.length l by rw [HN.out]; exact Kd.C_below HC.out (B1.out.trans (hB.mono (by omega)))) (by rw [HN.out]; omega)
        refine ⟨ad, e1, e2 j _ ?_⟩
        rw [flatMap_int, List.getElem?_map, hjv]; rfl
      subst had
      have hj0 : (0 : Int) ≤ (j : Int) := Int.natCast_nonneg _
      have hjn : (j : Int) < (n : Int) := by omega
      have HJ := Aside0.mk hj
      have HPX := Aside0.mk hpx
      have HP := Aside0.mk hp
      have HBW := Aside0.mk hB
      have HK := Aside0.mk hk
      clear hj hpx hp hB hk hjv hlt hjl
      have e4 : decide ((n : Int) ≤ (j : Int)) = false := by simp; omega
      have e4' : decide (n ≤ j) = false := by simp; omega
      obtain ⟨x1, x2⟩ := x
      by_cases hx1 : x1 = (j : Int)
      · subst hx1
        have e1 : ((j : Int) != (j : Int)) = false := by simp
        by_cases hx2 : x2 = v
        · subst hx2
          have e2 : (x2 != x2) = false := by simp
          gi_wp2
          refine ⟨KeepsOthers.setCell _ _ _, ⟨?_, ?_⟩, ?_, ?_, ?_⟩
          · exact (Below.refl _ W).setCell (p := ⟨W1.heap.size, 0, none⟩) (Nat.le_refl _) _
          · intro k u tt fr hk hu
            have hne : k ≠ W1.heap.size := by have := HSZL.out; omega
            exact (Below.heap_setCell _ _ _ k hne).trans hu
          · rw [List.length_append, ← HJ.out]; exact set_heap HK.out
          · exact HBW.out.setCell (p := ⟨W1.heap.size, 0, none⟩) (Nat.le_refl _) _
          · exact HPX.out.2 (by simp)
        · have e2 : (x2 != v) = true := by simp; exact hx2
          gi_wp2
          exact ⟨KeepsOthers.setCell _ _ _, by simp, fun h => by have := HPX.out.1 h; simp at this; exact hx2 this⟩
      · have e1 : (x1 != (j : Int)) = true := by simp; exact hx1
        gi_wp2
        all_goals exact ⟨KeepsOthers.setCell _ _ _, by simp, fun h => by have := HPX.out.1 h; simp at this; exact hx1 this.1⟩
    case done =>
      rintro D W hD ⟨hk, hB, hp⟩ hK
      have hL : (itemsO_int 0 false T).length = n := by rw [show (itemsO_int 0 false T).length = (listO T).length from items_len_int _ _ _, HTI.out, HN.out]
      rw [hL] at hk
      go_wp2
      exact ⟨D, rfl, hD, hK, hk, hB⟩
    case stop =>
      rintro D c pre W hD hpre ⟨rfl, hn⟩ hK
      exact absurd hpre hn
  case rest =>
    rintro D1 W2 ⟨hD1, hK1, hk1, hB2⟩
    have HBL := Aside0.mk hbl
    have HK1 := Aside0.mk hK1
    have Hk1 := Aside0.mk hk1
    have B2 := Aside0.mk (B1.out.trans (hB2.mono (by omega)))
    have O2 := Aside0.mk (O1.out.below hB2)
    have hsz2 : W1.heap.size + 2 ≤ W2.heap.size := by have := (Array.getElem?_eq_some_iff.1 hK1).1; have := HSZL.out; omega
    have z0 : W2.cell? ⟨w.heap.size, 0, none⟩ = some (.pointer p) := (hB2.cell (by show w.heap.size < _; omega)).trans Z0.out
    have z1 : W2.cell? ⟨w.heap.size + 1, 0, none⟩ = some (.slice A n c) := (hB2.cell (by show w.heap.size + 1 < _; omega)).trans Z1.out
    have Z0' := Aside0.mk z0
    have Z1' := Aside0.mk z1
    have Z2' : Aside0 (W2.heap[w.heap.size + 2]? = some (.cells #[.bool false] 4 (0, 0))) := ⟨(hB2.block _ (by omega)).trans Z2.out⟩
    have y0 : (W2.alloc (.cells #[.int .i64 (n : Int)] 3)).cell? ⟨w.heap.size, 0, none⟩ = some (.pointer p) := pw_cell_below ((Below.refl _ W2).alloc (Nat.le_refl _) _) z0
    clear hbl hK1 hk1 hB2 k0 k1
    go_upto_block 2 with (first | (go_at_call 14; refine (Back_int.calls p _).mono ?_; rintro e w' ⟨rfl, rfl⟩) | (go_at_call 12; refine (over_int.calls _ _ _).mono ?_; rintro e w' ⟨rfl, rfl⟩))
    obtain ⟨k0, k1, hbl⟩ := alloc2 W2 (.cells #[.int .i64 (n : Int)] 3) (.cells #[.pointer p] 26)
    obtain ⟨Wm, hWm⟩ : ∃ Wm, (W2.alloc (.cells #[.int .i64 (n : Int)] 3)).alloc (.cells #[.pointer p] 26) = Wm := ⟨_, rfl⟩
    rw [hWm] at k0 k1 hbl ⊢
    have HSZM : Aside0 (Wm.heap.size = W2.heap.size + 2) := ⟨by rw [← hWm]; simp⟩
    clear hWm z0 z1 y0
    refine mark_cut (fun D W => Wm.heap.size ≤ D ∧ W.heap[D]? = some (.deferred (some [])) ∧ W.heap[W2.heap.size]? = some (.cells #[.int .i64 0] 3 (0, 0)) ∧ Below W2.heap.size W2 W) ?first2 ?rest2
    case first2 =>
      go_wp2_with fail
      refine rangeBack_int W2 hbl (W2.heap.size + 1) p T O2.out (by have := HTL.out; omega) ((blk_cell k1 0).trans rfl) rfl
        (fun pre W => W.heap[W2.heap.size]? = some (.cells #[.int .i64 ((n - pre.length : Nat) : Int)] 3 (0, 0)) ∧ Below W2.heap.size W2 W ∧ pre <+: itemsO_int 0 true T)
        (fun c pre W => c = .ret ∧ ¬ pre <+: itemsO_int 0 true T)
        ?hI2 ?hIx2 ⟨by simpa using k0, hbl, List.nil_prefix⟩
        ?b1 ?assign2 ?body2 ?done2 ?stop2
      case assign2 =>
        intro lp x W K hK
        gi_wp2
        exact hK
      case hI2 => exact OwnFrom.and (ownFrom_blk _ _ (fun pre : List (Int × Int) => #[.int .i64 ((n - pre.length : Nat) : Int)]) _) (OwnFrom.and (ownFrom_below (Nat.le_refl _) hbl.size) (ownFrom_pure _ _))
      case hIx2 =>
        intro c
        exact OwnFrom.and (ownFrom_pure _ _) (ownFrom_pure _ _)
      case body2 =>
        rintro lp pre x W ⟨hk, hB, hp⟩ hlt
        have hlt' : pre.length < n := by have := HTL.out; omega
        obtain ⟨j, v, hj, hjl, hjv, hpx⟩ := items_next true l T HTI.out pre x hp (by rw [HN.out]; exact hlt')
        simp only [if_true] at hj
        rw [HN.out] at hj hjl
        have hj1 : n - pre.length = j + 1 := by omega
        rw [hj1, show ((j + 1 : Nat) : Int) = (j : Int) + 1 from rfl] at hk
        have hs0 : W2.heap.size < W.heap.size := (Array.getElem?_eq_some_iff.1 hk).1
        have hBk : Below W2.heap.size W2 (W.setCell ⟨W2.heap.size, 0, none⟩ (.int .i64 (j : Int))) := hB.setCell (p := ⟨W2.heap.size, 0, none⟩) (Nat.le_refl _) _
        have c2 : W.cell? ⟨W2.heap.size, 0, none⟩ = some (.int .i64 ((j : Int) + 1)) := (blk_cell hk 0).trans rfl
        have f2 : W.frozen? ⟨W2.heap.size, 0, none⟩ = false := blk_frozen hk 0
        have c1 : (W.setCell ⟨W2.heap.size, 0, none⟩ (.int .i64 (j : Int))).cell? ⟨w.heap.size + 1, 0, none⟩ = some (.slice A n c) := (hBk.cell (by show w.heap.size + 1 < _; omega)).trans Z1'.out
        have c4 : (W.setCell ⟨W2.heap.size, 0, none⟩ (.int .i64 (j : Int))).cell? ⟨W2.heap.size, 0, none⟩ = some (.int .i64 (j : Int)) := (blk_cell (set_heap hk) 0).trans rfl
        have c3 : (W.setCell ⟨W2.heap.size, 0, none⟩ (.int .i64 (j : Int))).cell? ⟨w.heap.size + 1 + 1, 0, none⟩ = some (.bool false) := (hBk.cell (by show w.heap.size + 1 + 1 < _; omega)).trans ((blk_cell Z2'.out 0).trans rfl)
        have f3 : (W.setCell ⟨W2.heap.size, 0, none⟩ (.int .i64 (j : Int))).frozen? ⟨w.heap.size + 1 + 1, 0, none⟩ = false := blk_frozen ((hBk.block _ (by omega)).trans Z2'.out) 0
        obtain ⟨ad, had, hcx⟩ : ∃ ad, A = some ad ∧ (W.setCell ⟨W2.heap.size, 0, none⟩ (.int .i64 (j : Int))).cell? (ad.add j) = some (.int .i64 v) := by
          obtain ⟨ad, e1, e2⟩ := C_cells_int (show D_int.C _ A l.length l by rw [HN.out]; exact Kd.C_below HC.out (B2.out.trans (hBk.mono (by omega)))) (by rw [HN.out]; omega)
          refine ⟨ad, e1, e2 j _ ?_⟩
          rw [flatMap_int, List.getElem?_map, hjv]; rfl
        subst had
        have hj0 : (0 : Int) ≤ (j : Int) := Int.natCast_nonneg _
        have hjn : (j : Int) < (n : Int) := by omega
        have HJ1 := Aside0.mk hj1
        have HPX := Aside0.mk hpx
        have HP := Aside0.mk hp
        have HBW := Aside0.mk hB
        have HK := Aside0.mk hk
        clear hj hpx hp hB hBk hk hjv hlt hlt' hj1
        obtain ⟨x1, x2⟩ := x
        have fin : ∀ W' : World, W' = W.setCell ⟨W2.heap.size, 0, none⟩ (.int .i64 (j : Int)) → KeepsOthers W W' ∧ KeepC W2.heap.size Wm.heap.size W W' ∧ W'.heap[W2.heap.size]? = some (.cells #[.int .i64 ((n - (pre ++ [(x1, x2)]).length : Nat) : Int)] 3 (0, 0)) ∧ Below W2.heap.size W2 W' := by
          rintro W' rfl
          refine ⟨KeepsOthers.setCell _ _ _, ⟨?_, ?_⟩, ?_, ?_⟩
          · exact (Below.refl _ W).setCell (p := ⟨W2.heap.size, 0, none⟩) (Nat.le_refl _) _
          · intro k u tt fr hk hu
            have hne : k ≠ W2.heap.size := by have := HSZM.out; omega
            exact (Below.heap_setCell _ _ _ k hne).trans hu
          · rw [List.length_append, show n - (pre.length + [(x1, x2)].length) = j by have := HJ1.out; simp; omega]; exact set_heap HK.out
          · exact HBW.out.setCell (p := ⟨W2.heap.size, 0, none⟩) (Nat.le_refl _) _
        have FIN := Aside0.mk fin
        clear fin
        by_cases hx1 : x1 = (j : Int)
        · subst hx1
          have e1 : ((j : Int) != (j : Int)) = false := by simp
          by_cases hx2 : x2 = v
          · subst hx2
            have e2 : (x2 != x2) = false := by simp
            gi_wp2
            obtain ⟨g1, g2, g3, g4⟩ := FIN.out _ rfl
            exact ⟨g1, g2, g3, g4, HPX.out.2 (by simp)⟩
          · have e2 : (x2 != v) = true := by simp; exact hx2
            gi_wp2
            exact ⟨(KeepsOthers.setCell _ _ _).trans (KeepsOthers.setCell _ _ _), by simp, fun h => by have := HPX.out.1 h; simp at this; exact hx2 this⟩
        · have e1 : (x1 != (j : Int)) = true := by simp; exact hx1
          gi_wp2
          all_goals exact ⟨(KeepsOthers.setCell _ _ _).trans (KeepsOthers.setCell _ _ _), by simp, fun h => by have := HPX.out.1 h; simp at this; exact hx1 this.1⟩
      case done2 =>
        rintro D W hD ⟨hk, hB, hp⟩ hK
        have hL : (itemsO_int 0 true T).length = n := by rw [show (itemsO_int 0 true T).length = (listO T).length from items_len_int _ _ _, HTI.out, HN.out]
        rw [hL, Nat.sub_self] at hk
        go_wp2
        exact ⟨D, rfl, hD, hK, hk, hB⟩
      case stop2 =>
        rintro D c pre W hD hpre ⟨rfl, hn⟩ hK
        exact absurd hpre hn
    case rest2 =>
      rintro D2 W3 ⟨hD2, hK2, hk2, hB3⟩
      have hsz3 : W2.heap.size + 2 ≤ W3.heap.size := by have := (Array.getElem?_eq_some_iff.1 hK2).1; have := HSZM.out; omega
      have B3 := Aside0.mk (B2.out.trans (hB3.mono (by omega)))
      have O3 := Aside0.mk (O2.out.below hB3)
      have C3 := Aside0.mk (Kd.C_below HC.out B3.out)
      have z0 : W3.cell? ⟨w.heap.size, 0, none⟩ = some (.pointer p) := (hB3.cell (by show w.heap.size < _; omega)).trans Z0'.out
      have z1 : W3.cell? ⟨w.heap.size + 1, 0, none⟩ = some (.slice A n c) := (hB3.cell (by show w.heap.size + 1 < _; omega)).trans Z1'.out
      have Q0 := Aside0.mk z0
      have Q1 := Aside0.mk z1
      have Q2 : Aside0 (W3.heap[w.heap.size + 2]? = some (.cells #[.bool false] 4 (0, 0))) := ⟨(hB3.block _ (by omega)).trans Z2'.out⟩
      have Q3 : Aside0 (W3.heap[W1.heap.size]? = some (.cells #[.int .i64 (n : Int)] 3 (0, 0))) := ⟨(hB3.block _ (by omega)).trans Hk1.out⟩
      have Q4 := Aside0.mk hk2
      have Q5 : Aside0 (W3.heap[D1]? = some (.deferred (some []))) := ⟨(hB3.block _ (Array.getElem?_eq_some_iff.1 HK1.out).1).trans HK1.out⟩
      have Q6 := Aside0.mk hK2
      have HD : Aside0 (D1 < W2.heap.size ∧ W2.heap.size + 2 ≤ D2 ∧ W1.heap.size + 2 ≤ D1) := ⟨(Array.getElem?_eq_some_iff.1 HK1.out).1, by have := HSZM.out; omega, by have := HSZL.out; omega⟩
      have hn0 : (0 : Int) ≤ (n : Int) := Int.natCast_nonneg _
      clear hbl hK2 hk2 hB3 k0 k1 hD1 hD2
      go_wp2_with fail
      have hn4 := heap_new W3 (.cells #[.int .i64 (-1), .int .i64 0, .int .i64 ((n : Int) / 2), .int .i64 ((n : Int) - 1), .int .i64 (n : Int)] 3)
      have hb4 : Below W3.heap.size W3 (W3.alloc (.cells #[.int .i64 (-1), .int .i64 0, .int .i64 ((n : Int) / 2), .int .i64 ((n : Int) - 1), .int .i64 (n : Int)] 3)) := (Below.refl _ _).alloc (Nat.le_refl _) _
      obtain ⟨W4, hW4⟩ : ∃ W, W3.alloc (.cells #[.int .i64 (-1), .int .i64 0, .int .i64 ((n : Int) / 2), .int .i64 ((n : Int) - 1), .int .i64 (n : Int)] 3) = W := ⟨_, rfl⟩
      rw [hW4] at hn4 hb4 ⊢
      have HSZ4 : Aside0 (W4.heap.size = W3.heap.size + 1) := ⟨by rw [← hW4]; simp⟩
      have N4 := Aside0.mk hn4
      have HB4 := Aside0.mk hb4
      clear hn4 hb4 hW4 z0 z1
      go_loopw [86] (fun v wr => ∃ k : Nat, v = .int .i64 k ∧ k ≤ 5 ∧ Aside0 (Below W4.heap.size W4 wr)) (fun v wr => 5 - (intOf v).toNat)
      case atStart => exact ⟨0, rfl, Nat.zero_le _, ⟨Below.refl _ _⟩⟩
      case round =>
        obtain ⟨k, rfl, hk, HBr⟩ := hrel
        have hbr : Below W3.heap.size W3 wr := HB4.out.trans (HBr.out.mono HB4.out.size)
        have a0 : wr.cell? ⟨w.heap.size, 0, none⟩ = some (.pointer p) := (hbr.cell (by show w.heap.size < _; omega)).trans Q0.out
        have a1 : wr.cell? ⟨w.heap.size + 1, 0, none⟩ = some (.slice A n c) := (hbr.cell (by show w.heap.size + 1 < _; omega)).trans Q1.out
        have HBR := Aside0.mk hbr
        have A0 := Aside0.mk a0
        have A1' := Aside0.mk a1
        clear hbr
        by_cases hlt : k < 5
        · have hlb : decide ((k : Int) < 5) = true := by simp; omega
          have hlb2 : decide (k < 5) = true := by simp; omega
          have hcell := ix_cell ((HBr.out.block _ (by have := HSZ4.out; omega)).trans N4.out) hlt
          have hk0 : (0 : Int) ≤ (k : Int) := Int.natCast_nonneg _
          have hk5 : (k : Int) < 5 := by omega
          obtain ⟨v, hv⟩ : ∃ v, v = ixv n k := ⟨_, rfl⟩
          rw [← hv] at hcell
          clear hv a1
          by_cases hin : 0 ≤ v ∧ v < (n : Int)
          · obtain ⟨j, rfl⟩ := Int.eq_ofNat_of_zero_le hin.1
            have hjn : (j : Int) < (n : Int) := hin.2
            have hj0 : (0 : Int) ≤ (j : Int) := hin.1
            obtain ⟨t, ht⟩ := some_of_len T (by have := HTL.out; omega)
            obtain ⟨x, hx⟩ : ∃ x, l[j]? = some x := ⟨_, List.getElem?_eq_getElem (by rw [HN.out]; omega)⟩
            have hIs : IsN K_int wr p t := by
              have := IsO.below HBR.out O3.out
              rw [ht] at this; exact this
            have hll : t.len ≤ 4611686018427387904 := by have h := HTL.out; rw [ht] at h; have h2 : t.len = n := h; omega
            have hel : t.list[j]? = some x := by have h := HTI.out; rw [ht] at h; have h2 : t.list = l := h; rw [h2]; exact hx
            obtain ⟨ad, had, hcx⟩ : ∃ ad, A = some ad ∧ wr.cell? (ad.add j) = some (.int .i64 x) := by
              obtain ⟨ad, e1, e2⟩ := C_cells_int (show D_int.C wr A l.length l by rw [HN.out]; exact Kd.C_below C3.out HBR.out) (by rw [HN.out]; omega)
              refine ⟨ad, e1, e2 j _ ?_⟩
              rw [flatMap_int, List.getElem?_map, hx]; rfl
            have HIS := Aside0.mk hIs
            have HCX := Aside0.mk hcx
            have HEL := Aside0.mk hel
            clear ht hx hIs hcx hin hel
            subst had
            have e1 : decide ((0 : Int) ≤ (j : Int)) = true := by simp
            have e2 : decide ((j : Int) < (n : Int)) = true := by simp; omega
            have e2' : decide (j < n) = true := by simp; omega
            go_wp2_with fail
            refine (At1_int.calls p j t wr HIS.out hll x HEL.out).mono ?_
            rintro e w6 ⟨rfl, hb6⟩
            have l6 : w6.cell? ⟨w.heap.size + 1, 0, none⟩ = some (.slice (some ad) n c) := pw_cell_below hb6 A1'.out
            have x6 : w6.cell? (ad.add j) = some (.int .i64 x) := pw_cell_below hb6 HCX.out
            have ex : (x != x) = false := by simp
            have HB6 := Aside0.mk (HBr.out.trans (hb6.mono HBr.out.size))
            clear hb6 a0 hcell
            go_wp2_with fail
            go_roundw
            case rel => exact ⟨k + 1, by go_num, by omega, HB6⟩
            case measure => simp [intOf]; omega
          · have hout : v < 0 ∨ (lenO T : Int) ≤ v := by have := HTL.out; omega
            have HOUT := Aside0.mk hout
            have hll : lenO T ≤ 4611686018427387904 := by have := HTL.out; omega
            have HLL := Aside0.mk hll
            clear hout hll
            by_cases hv0 : v < 0
            · have e1 : decide ((0 : Int) ≤ v) = false := by simp; omega
              clear hin
              go_wp2_with fail
              refine (At0_int.calls p v T wr (IsO.below HBR.out O3.out) HLL.out HOUT.out).mono ?_
              rintro e w6 ⟨rfl, hb6⟩
              have HB6 := Aside0.mk (HBr.out.trans (hb6.mono HBr.out.size))
              clear hb6 a0 hcell
              go_wp2_with fail
              go_roundw
              case rel => exact ⟨k + 1, by go_num, by omega, HB6⟩
              case measure => simp [intOf]; omega
            · have e1 : decide ((0 : Int) ≤ v) = true := by simp; omega
              have e2 : decide (v < (n : Int)) = false := by simp; omega
              have hv1 : 0 ≤ v := by omega
              have hv2 : (n : Int) ≤ v := by omega
              clear hin hv0
              go_wp2_with fail
              refine (At0_int.calls p v T wr (IsO.below HBR.out O3.out) HLL.out HOUT.out).mono ?_
              rintro e w6 ⟨rfl, hb6⟩
              have l6 : w6.cell? ⟨w.heap.size + 1, 0, none⟩ = some (.slice A n c) := pw_cell_below hb6 A1'.out
              have HB6 := Aside0.mk (HBr.out.trans (hb6.mono HBr.out.size))
              clear hb6 a0 hcell
              go_wp2_with fail
              go_roundw
              case rel => exact ⟨k + 1, by go_num, by omega, HB6⟩
              case measure => simp [intOf]; omega
        · obtain rfl : k = 5 := by omega
          have e5 : ((n : Int) == (n : Int)) = true := by simp
          have e5' : (n == n) = true := by simp
          have M2 : wr.heap[w.heap.size + 1 + 1]? = some (.cells #[.bool false] 4 (0, 0)) := (HBR.out.block _ (by omega)).trans Q2.out
          have a2 := (blk_cell M2 0).trans rfl
          have f2 := blk_frozen M2 0
          have a3 : wr.cell? ⟨W1.heap.size, 0, none⟩ = some (.int .i64 (n : Int)) := (blk_cell ((HBR.out.block _ (by omega)).trans Q3.out) 0).trans rfl
          have a4 : wr.cell? ⟨W2.heap.size, 0, none⟩ = some (.int .i64 0) := (blk_cell ((HBR.out.block _ (by omega)).trans Q4.out) 0).trans rfl
          have M2' := Aside0.mk M2
          clear M2 a0
          go_wp2_with fail
          obtain ⟨W8, hW8⟩ : ∃ W8, wr.setCell ⟨w.heap.size + 1 + 1, 0, none⟩ (.bool true) = W8 := ⟨_, rfl⟩
          have hd := HD.out
          have h8 : W8.heap[w.heap.size + 1 + 1]? = some (.cells #[.bool true] 4 (0, 0)) := by rw [← hW8]; exact set_heap M2'.out
          have g2 : W8.heap[D2]? = some (.deferred (some [])) := by rw [← hW8]; exact (Below.heap_setCell wr ⟨w.heap.size + 1 + 1, 0, none⟩ _ D2 (by show D2 ≠ w.heap.size + 1 + 1; omega)).trans ((HBR.out.block _ (Array.getElem?_eq_some_iff.1 Q6.out).1).trans Q6.out)
          have g1 : W8.heap[D1]? = some (.deferred (some [])) := by rw [← hW8]; exact (Below.heap_setCell wr ⟨w.heap.size + 1 + 1, 0, none⟩ _ D1 (by show D1 ≠ w.heap.size + 1 + 1; omega)).trans ((HBR.out.block _ (Array.getElem?_eq_some_iff.1 Q5.out).1).trans Q5.out)
          have hB8 : Below w.heap.size w W8 := by
            rw [← hW8]
            exact (B3.out.trans (HBR.out.mono (by omega))).setCell (p := ⟨w.heap.size + 1 + 1, 0, none⟩) (by show _ ≤ w.heap.size + 1 + 1; omega) _
          have hs8 := hB8.size
          rw [hW8]
          have hc9 : ((W8.putObj D2 (.deferred none)).putObj D1 (.deferred none)).cell? ⟨w.heap.size + 1 + 1, 0, none⟩ = some (.bool true) :=
            (blk_cell ((World.putObj_heap_other (by omega)).trans ((World.putObj_heap_other (by omega)).trans h8)) 0).trans rfl
          refine leave2 (v := .bool true) g2 g1 (by omega) (by simp [results, Try.results17, go_sem, hc9]) ⟨rfl, putObj_below (putObj_below hB8 D2 _ (by omega) hs8) D1 _ (by omega) (by have := (putObj_below hB8 D2 (.deferred none) (by omega) hs8).size; exact this)⟩

end Go.Proofs.Ytlopceimlipemaa.Rope
