import Derived.Test.YtlopceimlipemaaROver
import Derived.Test.YtlopceimlipemaaRRow
import Derived.Test.YtlopceimlipemaaRAwake
import Derived.Test.YtlopceimlipemaaRShares
import Derived.Deep.CutBlock
namespace Go.Proofs.Ytlopceimlipemaa.Rope
open Go.RowKit Go.Proofs.YtlopceimlipemaaW.PrintWords Go.Proofs.YtlopceimlipemaaW.PrintLast Go.Proofs.YtlopceimlipemaaW.PrintMore Go.Shelf
set_option linter.unusedVariables false
set_option linter.unusedSimpArgs false
attribute [local go_sem] Oper.semAt_some

theorem OwnFrom.or {β : Type} {B : Nat} {I I' : β → World → Prop} (h : OwnFrom B I) (h' : OwnFrom B I') : OwnFrom B (fun s W => I s W ∨ I' s W) := fun s W W' row hs hg hr => hs.elim (fun x => .inl (h s W W' row x hg hr)) (fun x => .inr (h' s W W' row x hg hr))
/-- A piece of code that ends with one mark more is said once. -/
theorem mark_cut {P : Program} {c : Code} {Q : Exit → Act → World → Prop} {a : Act} {w : World} (P' : Nat → World → Prop)
    (h1 : c.wp P (CutPost P' fun D => { a with defers := { target := .collected D, args := #[] } :: a.defers }) a w) (h2 : ∀ D w', P' D w' → Q .normal { a with defers := { target := .collected D, args := #[] } :: a.defers } w') : c.wp P Q a w :=
  Code.wp_mono (fun e b w' h => by
    cases e with
    | normal => obtain ⟨x, rfl, hx⟩ := h; exact h2 x w' hx
    | _ => exact h.elim) h1
theorem leave2 {P : Program} {fn : Func} {tmps : Array Value} {R : Ending → World → Prop} {D1 D2 : Nat} {W : World} {v : Value} (h2 : W.heap[D2]? = some (.deferred (some []))) (h1 : W.heap[D1]? = some (.deferred (some []))) (hne : D1 ≠ D2)
    (hr : (results fn tmps).run P ((W.putObj D2 (.deferred none)).putObj D1 (.deferred none)) = .ok v ((W.putObj D2 (.deferred none)).putObj D1 (.deferred none))) (h : R (.returned v) ((W.putObj D2 (.deferred none)).putObj D1 (.deferred none))) :
    LeavesInM Fence.wide 9 P fn tmps R [{ target := .collected D2, args := #[] }, { target := .collected D1, args := #[] }] .returning W :=
  ⟨by simp, .inl ⟨_, _, rfl, run_takeDeferred h2, by simp, .inl ⟨_, _, rfl, run_takeDeferred ((World.putObj_heap_other hne).trans h1), _, hr, h⟩⟩⟩
theorem prefix_snoc {α : Type} {pre L : List α} (x : α) (h : pre <+: L) (hl : pre.length < L.length) : pre ++ [x] <+: L ↔ x = L[pre.length] := by
  obtain ⟨r, rfl⟩ := h
  cases r with
  | nil => simp at hl
  | cons y r => simp [List.prefix_append_right_inj]
theorem items_next (back : Bool) (l : List Int) (T : Option (Tr Int)) (hT : listO T = l) (pre : List (Int × Int)) (x : Int × Int) (h : pre <+: itemsO_int 0 back T) (hl : pre.length < l.length) :
    ∃ (j : Nat) (v : Int), j = (if back then l.length - 1 - pre.length else pre.length) ∧ j < l.length ∧ l[j]? = some v ∧ (pre ++ [x] <+: itemsO_int 0 back T ↔ x = ((j : Int), v)) := by
  subst hT
  have hlen : (itemsO_int 0 back T).length = (listO T).length := items_len_int _ _ _
  have hp := prefix_snoc x h (by omega)
  cases back with
  | false =>
    have e := items_fwd_int 0 (listO T) pre.length hl
    refine ⟨pre.length, (listO T)[pre.length], rfl, hl, List.getElem?_eq_getElem hl, ?_⟩
    rw [hp]; simp only [itemsO_int]; rw [e]; simp
  | true =>
    have hj : (listO T).length - 1 - pre.length < (listO T).length := by omega
    have e := items_rev_int 0 (listO T) pre.length _ hl rfl hj
    refine ⟨(listO T).length - 1 - pre.length, (listO T)[(listO T).length - 1 - pre.length], by simp, hj, List.getElem?_eq_getElem hj, ?_⟩
    rw [hp]; simp only [itemsO_int]; rw [e]; simp
def wantN (n s : Nat) : Nat := if 0 < s then min n s else n

set_option maxRecDepth 100000 in
set_option maxHeartbeats 4000000 in
theorem Ends1.calls (A : Option Addr) (c : Nat) (l : List Int) (s : Nat) (w : World) (hC : D_int.C w A l.length l) (hc : l.length ≤ c) (h2 : l.length ≤ 300) (hs : s < 256) :
    Calls Try.prog 3 #[.slice A l.length c, .int .u8 s] w fun e w' => e = .returned (.bool true) ∧ Below w.heap.size w w' := by
  obtain ⟨n, hn⟩ : ∃ n, n = l.length := ⟨_, rfl⟩
  rw [← hn] at hC hc h2 ⊢
  have HN := Aside0.mk hn
  have HC := Aside0.mk hC
  have d1 : decide ((300 : Int) < (n : Int)) = false := by simp; omega
  have d2 : decide (300 < n) = false := by simp; omega
  clear hn hC
  refine calls_of_wp_marks Try.func3 rfl ?_
  simp only [Try.ntmps3, List.size_toArray, List.length_cons, List.length_nil, Nat.reduceAdd, Nat.reduceSub, Array.replicate_succ, Array.replicate_zero, List.push_toArray, List.append_toArray, List.nil_append, List.cons_append]
  go_wp2_with fail
  obtain ⟨k0, k1, k2, hbl⟩ := alloc3 w (.cells #[.slice A n c] 22) (.cells #[.int .u8 s] 5) (.cells #[.bool false] 4)
  refine (Of_int.calls A c n l _ HN.out.symm (Kd.C_below HC.out hbl) hc (by omega)).mono ?_
  rintro e w2 ⟨g, rfl, hO, hb2⟩
  obtain ⟨T, hT⟩ : ∃ T, T = buildT l := ⟨_, rfl⟩
  rw [← hT] at hO
  have hTl : lenO T = n := by rw [hT, ← listO_len, buildT_list, HN.out]
  have hTi : listO T = l := by rw [hT, buildT_list]
  have HTL := Aside0.mk hTl
  have HTI := Aside0.mk hTi
  have hB2 := hbl.trans (hb2.mono hbl.size)
  have hsz2 : w.heap.size + 3 ≤ w2.heap.size := by have := hb2.size; simpa using this
  have y0 : w2.heap[w.heap.size]? = some (.cells #[.slice A n c] 22 (0, 0)) := blk_below k0 hb2
  have y1 : w2.heap[w.heap.size + 1]? = some (.cells #[.int .u8 s] 5 (0, 0)) := blk_below k1 hb2
  have y2 : w2.heap[w.heap.size + 2]? = some (.cells #[.bool false] 4 (0, 0)) := blk_below k2 hb2
  have Y0 := Aside0.mk y0
  have Y1 := Aside0.mk y1
  have Y2 := Aside0.mk y2
  have O2 := Aside0.mk hO
  have B2 := Aside0.mk hB2
  clear hT hTl hTi hO hb2 hB2 hbl y0 y1 y2 k0 k1 k2
  go_upto_block 0 with (first | (go_at_call 13; refine (All_int.calls g _).mono ?_; rintro e w' ⟨rfl, rfl⟩) | (go_at_call 12; refine (over_int.calls _ _ _).mono ?_; rintro e w' ⟨rfl, rfl⟩))
  obtain ⟨k0, k1, k2, hbl⟩ := alloc3 w2 (.cells #[.pointer g] 26) (.cells #[.int .i64 0] 3) (.cells #[.pointer g] 26)
  obtain ⟨Wl, hWl⟩ : ∃ Wl, ((w2.alloc (.cells #[.pointer g] 26)).alloc (.cells #[.int .i64 0] 3)).alloc (.cells #[.pointer g] 26) = Wl := ⟨_, rfl⟩
  rw [hWl] at k0 k1 k2 hbl ⊢
  have HSZL : Aside0 (Wl.heap.size = w2.heap.size + 3) := ⟨by rw [← hWl]; simp⟩
  clear hWl
  refine mark_cut (fun D W => Wl.heap.size ≤ D ∧ W.heap[D]? = some (.deferred (some [])) ∧ W.heap[w2.heap.size]? = some (.cells #[.pointer g] 26 (0, 0)) ∧ W.heap[w2.heap.size + 1]? = some (.cells #[.int .i64 (wantN n s : Int)] 3 (0, 0)) ∧ Below w2.heap.size w2 W) ?first ?rest
  case first =>
    go_wp2_with fail
    refine rangeAll_int w2 hbl (w2.heap.size + 2) g T O2.out (by have := HTL.out; omega) ((blk_cell k2 0).trans rfl) rfl
      (fun pre W => W.heap[w2.heap.size]? = some (.cells #[.pointer g] 26 (0, 0)) ∧ W.heap[w2.heap.size + 1]? = some (.cells #[.int .i64 (pre.length : Int)] 3 (0, 0)) ∧ Below w2.heap.size w2 W ∧ (pre <+: itemsO_int 0 false T ∧ (0 < s → pre.length < s)))
      (fun c pre W => (c = .exit 0 ∧ W.heap[w2.heap.size]? = some (.cells #[.pointer g] 26 (0, 0)) ∧ W.heap[w2.heap.size + 1]? = some (.cells #[.int .i64 (pre.length : Int)] 3 (0, 0)) ∧ Below w2.heap.size w2 W ∧ (0 < s ∧ pre.length = s)) ∨ (c = .ret ∧ ¬ pre <+: itemsO_int 0 false T))
      ?hI ?hIx ⟨k0, k1, hbl, List.nil_prefix, fun h => h⟩
      ?a1 ?assign ?body ?done ?stop
    case assign =>
      intro lp x W K hK
      gi_wp2
      exact hK
    case hI => exact OwnFrom.and (ownFrom_blk _ _ (fun _ => #[.pointer g]) _) (OwnFrom.and (ownFrom_blk _ _ (fun pre : List (Int × Int) => #[.int .i64 (pre.length : Int)]) _) (OwnFrom.and (ownFrom_below (Nat.le_refl _) hbl.size) (ownFrom_pure _ _)))
    case hIx =>
      intro c
      exact OwnFrom.or (OwnFrom.and (ownFrom_pure _ _) (OwnFrom.and (ownFrom_blk _ _ (fun _ => #[.pointer g]) _) (OwnFrom.and (ownFrom_blk _ _ (fun pre : List (Int × Int) => #[.int .i64 (pre.length : Int)]) _) (OwnFrom.and (ownFrom_below (Nat.le_refl _) hbl.size) (ownFrom_pure _ _))))) (OwnFrom.and (ownFrom_pure _ _) (ownFrom_pure _ _))
    case body =>
      rintro lp pre x W ⟨hr, hk, hB, hp, hst⟩ hlt
      have hlt' : pre.length < n := by have := HTL.out; omega
      obtain ⟨j, v, hj, hjl, hjv, hpx⟩ := items_next false l T HTI.out pre x hp (by rw [← HN.out]; exact hlt')
      simp only [Bool.false_eq_true, if_false] at hj
      rw [← hj] at hst hlt'
      have c0 : W.cell? ⟨w.heap.size, 0, none⟩ = some (.slice A n c) := (hB.cell (by show w.heap.size < _; omega)).trans ((blk_cell Y0.out 0).trans rfl)
      have c1 : W.cell? ⟨w.heap.size + 1, 0, none⟩ = some (.int .u8 s) := (hB.cell (by show w.heap.size + 1 < _; omega)).trans ((blk_cell Y1.out 0).trans rfl)
      have c2 : W.cell? ⟨w2.heap.size + 1, 0, none⟩ = some (.int .i64 (j : Int)) := by rw [hj]; exact (blk_cell hk 0).trans rfl
      have f2 : W.frozen? ⟨w2.heap.size + 1, 0, none⟩ = false := blk_frozen hk 0
      have f3 : W.frozen? ⟨w.heap.size + 1 + 1, 0, none⟩ = false := blk_frozen ((hB.block _ (by omega)).trans Y2.out) 0
      have c3 : W.cell? ⟨w.heap.size + 1 + 1, 0, none⟩ = some (.bool false) := (hB.cell (by show w.heap.size + 1 + 1 < _; omega)).trans ((blk_cell Y2.out 0).trans rfl)
      obtain ⟨ad, had, hcx⟩ : ∃ ad, A = some ad ∧ W.cell? (ad.add j) = some (.int .i64 v) := by
        obtain ⟨ad, e1, e2⟩ := C_cells_int (show D_int.C W A l.length l by rw [← HN.out]; exact Kd.C_below HC.out (B2.out.trans (hB.mono (by omega)))) (by rw [← HN.out]; omega)
        refine ⟨ad, e1, e2 j _ ?_⟩
        rw [flatMap_int, List.getElem?_map, hjv]; rfl
      subst had
      have hj0 : (0 : Int) ≤ (j : Int) := Int.natCast_nonneg _
      have hjn : (j : Int) < (n : Int) := by omega
      have HJ := Aside0.mk hj
      have HPX := Aside0.mk hpx
      have HP := Aside0.mk hp
      have HST := Aside0.mk hst
      have HB := Aside0.mk hB
      have HR := Aside0.mk hr
      have HK := Aside0.mk hk
      clear hj hpx hp hst hB hr hk hjv hlt hjl
      obtain ⟨x1, x2⟩ := x
      by_cases hx1 : x1 = (j : Int)
      · subst hx1
        have e1 : ((j : Int) != (j : Int)) = false := by simp
        by_cases hx2 : x2 = v
        · subst hx2
          have e2 : (x2 != x2) = false := by simp
          by_cases hs1 : j + 1 = s
          · have e3 : ((j : Int) + 1 == (s : Int)) = true := by simp; omega
            have e3' : (j + 1 == s) = true := by simp; omega
            gi_wp2
            refine ⟨KeepsOthers.setCell _ _ _, .inl ⟨by simp, ?_, ?_, ?_, by omega, ?_⟩⟩
            · exact set_other HR.out (by omega)
            · rw [List.length_append, ← HJ.out]; exact set_heap HK.out
            · exact HB.out.setCell (p := ⟨w2.heap.size + 1, 0, none⟩) (by show _ ≤ w2.heap.size + 1; omega) _
            · rw [List.length_append, ← HJ.out]; exact hs1
          · have e3 : ((j : Int) + 1 == (s : Int)) = false := by simp; omega
            have e3' : (j + 1 == s) = false := by simp; omega
            gi_wp2
            refine ⟨KeepsOthers.setCell _ _ _, ⟨?_, ?_⟩, ?_, ?_, ?_, ?_, ?_⟩
            · exact (Below.refl _ W).setCell (p := ⟨w2.heap.size + 1, 0, none⟩) (by show _ ≤ w2.heap.size + 1; omega) _
            · intro k u tt fr hk hu
              have hne : k ≠ w2.heap.size + 1 := by have := HSZL.out; omega
              exact (Below.heap_setCell _ _ _ k hne).trans hu
            · exact set_other HR.out (by omega)
            · rw [List.length_append, ← HJ.out]; exact set_heap HK.out
            · exact HB.out.setCell (p := ⟨w2.heap.size + 1, 0, none⟩) (by show _ ≤ w2.heap.size + 1; omega) _
            · exact HPX.out.2 (by simp)
            · intro h; rw [List.length_append, ← HJ.out]; have := HST.out h; simp; omega
        · have e2 : (x2 != v) = true := by simp; exact hx2
          gi_wp2
          exact ⟨KeepsOthers.setCell _ _ _, .inr ⟨by simp, fun h => by have := HPX.out.1 h; simp at this; exact hx2 this⟩⟩
      · have e1 : (x1 != (j : Int)) = true := by simp; exact hx1
        gi_wp2
        all_goals exact ⟨KeepsOthers.setCell _ _ _, .inr ⟨by simp, fun h => by have := HPX.out.1 h; simp at this; exact hx1 this.1⟩⟩
    case done =>
      rintro D W hD ⟨hr, hk, hB, hp, hst⟩ hK
      have hL : (itemsO_int 0 false T).length = wantN n s := by
        have e1 : (itemsO_int 0 false T).length = n := by rw [show (itemsO_int 0 false T).length = (listO T).length from items_len_int _ _ _, HTI.out, HN.out]
        rw [e1] at hst ⊢
        unfold wantN; split
        · rename_i h; have := hst h; omega
        · rfl
      rw [hL] at hk
      go_wp2
      exact ⟨D, rfl, hD, hK, hr, hk, hB⟩
    case stop =>
      rintro D c pre W hD hpre (⟨rfl, hr, hk, hB, hs0, hst⟩ | ⟨rfl, hn⟩) hK
      · have hL : pre.length = wantN n s := by
          have e1 : (itemsO_int 0 false T).length = n := by rw [show (itemsO_int 0 false T).length = (listO T).length from items_len_int _ _ _, HTI.out, HN.out]
          have := hpre.length_le
          unfold wantN; rw [if_pos hs0]; omega
        rw [hL] at hk
        go_wp2
        exact ⟨D, rfl, hD, hK, hr, hk, hB⟩
      · exact absurd hpre hn
  case rest =>
    rintro D1 W1 ⟨hD1, hK1, hr1, hk1, hB1⟩
    have HB0 := Aside0.mk hbl
    have R1 := Aside0.mk hr1
    have K1 := Aside0.mk hk1
    have D1K := Aside0.mk hK1
    have B1 := Aside0.mk hB1
    have x0 : (W1.alloc (.cells #[.int .i64 0] 3)).cell? ⟨w2.heap.size, 0, none⟩ = some (.pointer g) := pw_cell_below ((Below.refl _ W1).alloc (Nat.le_refl _) _) ((blk_cell hr1 0).trans rfl)
    have hsz1 : w2.heap.size + 3 ≤ W1.heap.size := by have := (Array.getElem?_eq_some_iff.1 hK1).1; have := HSZL.out; omega
    clear hbl hr1 hk1 hK1 hB1 k0 k1 k2
    go_upto_block 2 with (first | (go_at_call 14; refine (Back_int.calls g _).mono ?_; rintro e w' ⟨rfl, rfl⟩) | (go_at_call 12; refine (over_int.calls _ _ _).mono ?_; rintro e w' ⟨rfl, rfl⟩))
    obtain ⟨k0, k1, hbl⟩ := alloc2 W1 (.cells #[.int .i64 0] 3) (.cells #[.pointer g] 26)
    obtain ⟨Wm, hWm⟩ : ∃ Wm, (W1.alloc (.cells #[.int .i64 0] 3)).alloc (.cells #[.pointer g] 26) = Wm := ⟨_, rfl⟩
    rw [hWm] at k0 k1 hbl ⊢
    have HSZM : Aside0 (Wm.heap.size = W1.heap.size + 2) := ⟨by rw [← hWm]; simp⟩
    have z0 : W1.cell? ⟨w.heap.size, 0, none⟩ = some (.slice A n c) := (B1.out.cell (by show w.heap.size < _; omega)).trans ((blk_cell Y0.out 0).trans rfl)
    have z1 : W1.cell? ⟨w.heap.size + 1, 0, none⟩ = some (.int .u8 s) := (B1.out.cell (by show w.heap.size + 1 < _; omega)).trans ((blk_cell Y1.out 0).trans rfl)
    have z2 : W1.heap[w.heap.size + 2]? = some (.cells #[.bool false] 4 (0, 0)) := (B1.out.block _ (by omega)).trans Y2.out
    have Z0 := Aside0.mk z0
    have Z1 := Aside0.mk z1
    have Z2 := Aside0.mk z2
    clear hWm x0 z0 z1 z2
    refine mark_cut (fun D W => Wm.heap.size ≤ D ∧ W.heap[D]? = some (.deferred (some [])) ∧ W.heap[W1.heap.size]? = some (.cells #[.int .i64 (wantN n s : Int)] 3 (0, 0)) ∧ Below W1.heap.size W1 W) ?first2 ?rest2
    case first2 =>
      go_wp2_with fail
      refine rangeBack_int W1 hbl (W1.heap.size + 1) g T (IsO.below B1.out O2.out) (by have := HTL.out; omega) ((blk_cell k1 0).trans rfl) rfl
        (fun pre W => W.heap[W1.heap.size]? = some (.cells #[.int .i64 (pre.length : Int)] 3 (0, 0)) ∧ Below W1.heap.size W1 W ∧ (pre <+: itemsO_int 0 true T ∧ (0 < s → pre.length < s)))
        (fun c pre W => (c = .exit 2 ∧ W.heap[W1.heap.size]? = some (.cells #[.int .i64 (pre.length : Int)] 3 (0, 0)) ∧ Below W1.heap.size W1 W ∧ (0 < s ∧ pre.length = s)) ∨ (c = .ret ∧ ¬ pre <+: itemsO_int 0 true T))
        ?hI2 ?hIx2 ⟨k0, hbl, List.nil_prefix, fun h => h⟩
        ?b1 ?assign2 ?body2 ?done2 ?stop2
      case assign2 =>
        intro lp x W K hK
        gi_wp2
        exact hK
      case hI2 => exact OwnFrom.and (ownFrom_blk _ _ (fun pre : List (Int × Int) => #[.int .i64 (pre.length : Int)]) _) (OwnFrom.and (ownFrom_below (Nat.le_refl _) hbl.size) (ownFrom_pure _ _))
      case hIx2 =>
        intro c
        exact OwnFrom.or (OwnFrom.and (ownFrom_pure _ _) (OwnFrom.and (ownFrom_blk _ _ (fun pre : List (Int × Int) => #[.int .i64 (pre.length : Int)]) _) (OwnFrom.and (ownFrom_below (Nat.le_refl _) hbl.size) (ownFrom_pure _ _)))) (OwnFrom.and (ownFrom_pure _ _) (ownFrom_pure _ _))
      case body2 =>
        rintro lp pre x W ⟨hk, hB, hp, hst⟩ hlt
        have hlt' : pre.length < n := by have := HTL.out; omega
        obtain ⟨j, v, hj, hjl, hjv, hpx⟩ := items_next true l T HTI.out pre x hp (by rw [← HN.out]; exact hlt')
        simp only [if_true] at hj
        rw [← HN.out] at hj hjl
        obtain ⟨p, hp_⟩ : ∃ p, p = pre.length := ⟨_, rfl⟩
        rw [← hp_] at hst hlt' hj hk
        have hs0 : W1.heap.size < W.heap.size := (Array.getElem?_eq_some_iff.1 hk).1
        have c0 : W.cell? ⟨w.heap.size, 0, none⟩ = some (.slice A n c) := (hB.cell (by show w.heap.size < _; omega)).trans Z0.out
        have c1 : W.cell? ⟨w.heap.size + 1, 0, none⟩ = some (.int .u8 s) := (hB.cell (by show w.heap.size + 1 < _; omega)).trans Z1.out
        have c2 : W.cell? ⟨W1.heap.size, 0, none⟩ = some (.int .i64 (p : Int)) := (blk_cell hk 0).trans rfl
        have f2 : W.frozen? ⟨W1.heap.size, 0, none⟩ = false := blk_frozen hk 0
        have c3 : W.cell? ⟨w.heap.size + 1 + 1, 0, none⟩ = some (.bool false) := (hB.cell (by show w.heap.size + 1 + 1 < _; omega)).trans ((blk_cell Z2.out 0).trans rfl)
        have f3 : W.frozen? ⟨w.heap.size + 1 + 1, 0, none⟩ = false := blk_frozen ((hB.block _ (by omega)).trans Z2.out) 0
        obtain ⟨ad, had, hcx⟩ : ∃ ad, A = some ad ∧ W.cell? (ad.add j) = some (.int .i64 v) := by
          obtain ⟨ad, e1, e2⟩ := C_cells_int (show D_int.C W A l.length l by rw [← HN.out]; exact Kd.C_below HC.out ((B2.out.trans (B1.out.mono (by omega))).trans (hB.mono (by omega)))) (by rw [← HN.out]; omega)
          refine ⟨ad, e1, e2 j _ ?_⟩
          rw [flatMap_int, List.getElem?_map, hjv]; rfl
        subst had
        have hj0 : (0 : Int) ≤ (j : Int) := Int.natCast_nonneg _
        have hjn : (j : Int) < (n : Int) := by omega
        have hp0 : (0 : Int) ≤ (p : Int) := Int.natCast_nonneg _
        have HE : Aside0 ((n : Int) - 1 - (p : Int) = (j : Int)) := ⟨by omega⟩
        have HP' := Aside0.mk hp_
        have HPX := Aside0.mk hpx
        have HP := Aside0.mk hp
        have HST := Aside0.mk hst
        have HB := Aside0.mk hB
        have HK := Aside0.mk hk
        clear hj hpx hp hst hB hk hjv hlt hjl hp_
        obtain ⟨x1, x2⟩ := x
        by_cases hx1 : x1 = (j : Int)
        · subst hx1
          have e1 : ((j : Int) != (n : Int) - 1 - (p : Int)) = false := by rw [HE.out]; simp
          by_cases hx2 : x2 = v
          · subst hx2
            have e2 : (x2 != x2) = false := by simp
            by_cases hs1 : p + 1 = s
            · have e3 : ((p : Int) + 1 == (s : Int)) = true := by simp; omega
              have e3' : (p + 1 == s) = true := by simp; omega
              gi_wp2
              refine ⟨KeepsOthers.setCell _ _ _, .inl ⟨by simp, ?_, ?_, by omega, ?_⟩⟩
              · rw [List.length_append, ← HP'.out]; exact set_heap HK.out
              · exact HB.out.setCell (p := ⟨W1.heap.size, 0, none⟩) (Nat.le_refl _) _
              · rw [List.length_append, ← HP'.out]; exact hs1
            · have e3 : ((p : Int) + 1 == (s : Int)) = false := by simp; omega
              have e3' : (p + 1 == s) = false := by simp; omega
              gi_wp2
              refine ⟨KeepsOthers.setCell _ _ _, ⟨?_, ?_⟩, ?_, ?_, ?_, ?_⟩
              · exact (Below.refl _ W).setCell (p := ⟨W1.heap.size, 0, none⟩) (Nat.le_refl _) _
              · intro k u tt fr hk hu
                have hne : k ≠ W1.heap.size := by have := HSZM.out; omega
                exact (Below.heap_setCell _ _ _ k hne).trans hu
              · rw [List.length_append, ← HP'.out]; exact set_heap HK.out
              · exact HB.out.setCell (p := ⟨W1.heap.size, 0, none⟩) (Nat.le_refl _) _
              · exact HPX.out.2 (by simp)
              · intro h; rw [List.length_append, ← HP'.out]; have := HST.out h; simp; omega
          · have e2 : (x2 != v) = true := by simp; exact hx2
            gi_wp2
            exact ⟨KeepsOthers.setCell _ _ _, .inr ⟨by simp, fun h => by have := HPX.out.1 h; simp at this; exact hx2 this⟩⟩
        · have e1 : (x1 != (n : Int) - 1 - (p : Int)) = true := by rw [HE.out]; simp; exact hx1
          gi_wp2
          all_goals exact ⟨KeepsOthers.setCell _ _ _, .inr ⟨by simp, fun h => by have := HPX.out.1 h; simp at this; exact hx1 this.1⟩⟩
      case done2 =>
        rintro D W hD ⟨hk, hB, hp, hst⟩ hK
        have hL : (itemsO_int 0 true T).length = wantN n s := by
          have e1 : (itemsO_int 0 true T).length = n := by rw [show (itemsO_int 0 true T).length = (listO T).length from items_len_int _ _ _, HTI.out, HN.out]
          rw [e1] at hst ⊢
          unfold wantN; split
          · rename_i h; have := hst h; omega
          · rfl
        rw [hL] at hk
        go_wp2
        exact ⟨D, rfl, hD, hK, hk, hB⟩
      case stop2 =>
        rintro D c pre W hD hpre (⟨rfl, hk, hB, hs0, hst⟩ | ⟨rfl, hn⟩) hK
        · have hL : pre.length = wantN n s := by
            have e1 : (itemsO_int 0 true T).length = n := by rw [show (itemsO_int 0 true T).length = (listO T).length from items_len_int _ _ _, HTI.out, HN.out]
            have := hpre.length_le
            unfold wantN; rw [if_pos hs0]; omega
          rw [hL] at hk
          go_wp2
          exact ⟨D, rfl, hD, hK, hk, hB⟩
        · exact absurd hpre hn
    case rest2 =>
      rintro D2 W2 ⟨hD2, hK2, hk2, hB2⟩
      have hs2 : W1.heap.size + 2 ≤ W2.heap.size := by have := (Array.getElem?_eq_some_iff.1 hK2).1; have := HSZM.out; omega
      have v0 : W2.cell? ⟨w.heap.size, 0, none⟩ = some (.slice A n c) := (hB2.cell (by show w.heap.size < _; omega)).trans Z0.out
      have v1 : W2.cell? ⟨w.heap.size + 1, 0, none⟩ = some (.int .u8 s) := (hB2.cell (by show w.heap.size + 1 < _; omega)).trans Z1.out
      have HK2 := Aside0.mk hK2
      have Hk2 := Aside0.mk hk2
      have HB2 := Aside0.mk hB2
      have R2 := Aside0.mk ((hB2.block _ (by omega)).trans R1.out)
      have K2 := Aside0.mk ((hB2.block _ (by omega)).trans K1.out)
      have D1K2 := Aside0.mk ((hB2.block _ (Array.getElem?_eq_some_iff.1 D1K.out).1).trans D1K.out)
      have Z2' := Aside0.mk ((hB2.block _ (by omega)).trans Z2.out)
      clear hK2 hk2 hB2 hbl k0 k1
      obtain ⟨q, hq⟩ : ∃ q, q = wantN n s := ⟨_, rfl⟩
      rw [← hq] at Hk2 K2
      have hcs : (0 < s ∧ n ≤ s) ∨ (0 < s ∧ s < n) ∨ ¬ 0 < s := by omega
      have HQ := Aside0.mk hq
      clear hq v1
      have v1 : W2.cell? ⟨w.heap.size + 1, 0, none⟩ = some (.int .u8 s) := (HB2.out.cell (by show w.heap.size + 1 < _; omega)).trans Z1.out
      rcases hcs with ⟨hsp, hns⟩ | ⟨hsp, hns⟩ | hsp
      all_goals
        have hqv := HQ.out
        unfold wantN at hqv
        first | rw [if_pos hsp] at hqv | rw [if_neg hsp] at hqv
        first | rw [Nat.min_eq_left hns] at hqv | rw [Nat.min_eq_right (Nat.le_of_lt hns)] at hqv | skip
        rw [hqv] at Hk2 K2
        clear hqv
        have e5 : ((n : Int) == (n : Int)) = true := by simp
        have e6 : ((s : Int) == (s : Int)) = true := by simp
        have e5' : (n == n) = true := by simp
        have e6' : (s == s) = true := by simp
        go_wp2_with fail
        go_loopw [80] (fun v wr => ∃ k : Nat, v = .int .i64 k ∧ k ≤ n ∧ Aside0 (Below W2.heap.size W2 wr)) (fun v wr => n - (intOf v).toNat)
        case atStart => exact ⟨0, rfl, Nat.zero_le _, ⟨Below.refl _ _⟩⟩
        case round =>
          obtain ⟨k, rfl, hk, HBr⟩ := hrel
          have a0 : wr.cell? ⟨w2.heap.size, 0, none⟩ = some (.pointer g) := (HBr.out.cell (by show w2.heap.size < _; omega)).trans ((blk_cell R2.out 0).trans rfl)
          by_cases hlt : k < n
          · have hlb : decide ((k : Int) < (n : Int)) = true := by simp; omega
            have hlb2 : decide (k < n) = true := by simp; omega
            obtain ⟨t, ht⟩ := some_of_len T (by have := HTL.out; omega)
            obtain ⟨v, hv⟩ : ∃ v, l[k]? = some v := ⟨_, List.getElem?_eq_getElem (by rw [← HN.out]; exact hlt)⟩
            have hIs : IsN K_int wr g t := by
              have := IsO.below (B1.out.trans ((HB2.out.trans (HBr.out.mono (by omega))).mono (by omega))) O2.out
              rw [ht] at this; exact this
            have hll : t.len ≤ 4611686018427387904 := by have h := HTL.out; rw [ht] at h; have h2 : t.len = n := h; omega
            have hel : t.list[k]? = some v := by have h := HTI.out; rw [ht] at h; have h2 : t.list = l := h; rw [h2]; exact hv
            obtain ⟨ad, had, hcx⟩ : ∃ ad, A = some ad ∧ wr.cell? (ad.add k) = some (.int .i64 v) := by
              obtain ⟨ad, e1, e2⟩ := C_cells_int (show D_int.C wr A l.length l by rw [← HN.out]; exact Kd.C_below HC.out (((B2.out.trans (B1.out.mono (by omega))).trans (HB2.out.mono (by omega))).trans (HBr.out.mono (by omega)))) (by rw [← HN.out]; omega)
              refine ⟨ad, e1, e2 k _ ?_⟩
              rw [flatMap_int, List.getElem?_map, hv]; rfl
            have hlw : wr.cell? ⟨w.heap.size, 0, none⟩ = some (.slice A n c) := (HBr.out.cell (by show w.heap.size < _; omega)).trans v0
            have HT' := Aside0.mk ht
            have HIS := Aside0.mk hIs
            have HCX := Aside0.mk hcx
            have HLW := Aside0.mk hlw
            clear ht hv hIs hcx hlw
            subst had
            go_wp2_with fail
            refine (At1_int.calls g k t wr HIS.out hll v hel).mono ?_
            rintro e w6 ⟨rfl, hb6⟩
            have l6 : w6.cell? ⟨w.heap.size, 0, none⟩ = some (.slice (some ad) n c) := pw_cell_below hb6 HLW.out
            have x6 : w6.cell? (ad.add k) = some (.int .i64 v) := pw_cell_below hb6 HCX.out
            have ex : (v != v) = false := by simp
            have hk0 : (0 : Int) ≤ (k : Int) := Int.natCast_nonneg _
            have hkn : (k : Int) < (n : Int) := by omega
            have HB6 := Aside0.mk (HBr.out.trans (hb6.mono HBr.out.size))
            clear hb6 a0 hel
            go_wp2_with fail
            go_roundw
            case rel => exact ⟨k + 1, by go_num, by omega, HB6⟩
            case measure => simp [intOf]; omega
          · obtain rfl : k = n := by omega
            have hlb : decide ((k : Int) < (k : Int)) = false := by simp
            have hlb2 : decide (k < k) = false := by simp
            have Ma := Aside0.mk ((HBr.out.block _ (by omega)).trans K2.out)
            have Mb := Aside0.mk ((HBr.out.block _ (by omega)).trans Hk2.out)
            have Mc := Aside0.mk ((HBr.out.block _ (by omega)).trans Z2'.out)
            have a1 := (blk_cell Ma.out 0).trans rfl
            have a2 := (blk_cell Mb.out 0).trans rfl
            clear a0
            go_wp2_with fail
            refine (awake.calls wr).mono ?_
            rintro e w7 ⟨rfl, hb7⟩
            have M7 := Aside0.mk (blk_below Mc.out hb7)
            have a3 : w7.cell? ⟨w.heap.size + 1 + 1, 0, none⟩ = some (.bool false) := (blk_cell M7.out 0).trans rfl
            have f3 : w7.frozen? ⟨w.heap.size + 1 + 1, 0, none⟩ = false := blk_frozen M7.out 0
            have HB7 := Aside0.mk (HBr.out.trans (hb7.mono HBr.out.size))
            have hd2 := (Array.getElem?_eq_some_iff.1 D1K.out).1
            have hd3 := HSZM.out
            have hd4 := HSZL.out
            have HD2 : Aside0 (w7.heap[D2]? = some (.deferred (some []))) := ⟨(hb7.block _ (by have := (Array.getElem?_eq_some_iff.1 ((HBr.out.block _ (Array.getElem?_eq_some_iff.1 HK2.out).1).trans HK2.out)).1; exact this)).trans ((HBr.out.block _ (Array.getElem?_eq_some_iff.1 HK2.out).1).trans HK2.out)⟩
            have HD1 : Aside0 (w7.heap[D1]? = some (.deferred (some []))) := ⟨(hb7.block _ (by have := (Array.getElem?_eq_some_iff.1 ((HBr.out.block _ (Array.getElem?_eq_some_iff.1 D1K2.out).1).trans D1K2.out)).1; exact this)).trans ((HBr.out.block _ (Array.getElem?_eq_some_iff.1 D1K2.out).1).trans D1K2.out)⟩
            clear hb7 a1 a2
            go_wp2_with fail
            obtain ⟨W8, hW8⟩ : ∃ W8, w7.setCell ⟨w.heap.size + 1 + 1, 0, none⟩ (.bool true) = W8 := ⟨_, rfl⟩
            have h8 : W8.heap[w.heap.size + 1 + 1]? = some (.cells #[.bool true] 4 (0, 0)) := by rw [← hW8]; exact set_heap M7.out
            have g2 : W8.heap[D2]? = some (.deferred (some [])) := by rw [← hW8]; exact (Below.heap_setCell w7 ⟨w.heap.size + 1 + 1, 0, none⟩ _ D2 (by show D2 ≠ w.heap.size + 1 + 1; omega)).trans HD2.out
            have g1 : W8.heap[D1]? = some (.deferred (some [])) := by rw [← hW8]; exact (Below.heap_setCell w7 ⟨w.heap.size + 1 + 1, 0, none⟩ _ D1 (by show D1 ≠ w.heap.size + 1 + 1; omega)).trans HD1.out
            have hB8 : Below w.heap.size w W8 := by
              rw [← hW8]
              exact ((B2.out.trans (B1.out.mono (by omega))).trans ((HB2.out.mono (by omega)).trans (HB7.out.mono (by omega)))).setCell (p := ⟨w.heap.size + 1 + 1, 0, none⟩) (by show _ ≤ w.heap.size + 1 + 1; omega) _
            have hs8 := hB8.size
            rw [hW8]
            have hc9 : ((W8.putObj D2 (.deferred none)).putObj D1 (.deferred none)).cell? ⟨w.heap.size + 1 + 1, 0, none⟩ = some (.bool true) :=
              (blk_cell ((World.putObj_heap_other (by omega)).trans ((World.putObj_heap_other (by omega)).trans h8)) 0).trans rfl
            refine leave2 (v := .bool true) g2 g1 (by omega) (by simp [results, Try.results3, go_sem, hc9]) ⟨rfl, putObj_below (putObj_below hB8 D2 _ (by omega) hs8) D1 _ (by omega) (by have := (putObj_below hB8 D2 (.deferred none) (by omega) hs8).size; exact this)⟩

set_option maxRecDepth 100000 in
set_option maxHeartbeats 4000000 in
theorem Ends0.calls (A : Option Addr) (c n : Nat) (s : Int) (w : World) (hl : 300 < n) :
    Calls Try.prog 3 #[.slice A n c, .int .u8 s] w fun e w' => e = .returned (.bool true) ∧ Below w.heap.size w w' := by
  have d1 : decide ((300 : Int) < (n : Int)) = true := by simp; omega
  have d2 : decide (300 < n) = true := by simp; omega
  go_enter Try.func3, Try.ntmps3
  obtain ⟨k0, k1, k2, hbl⟩ := alloc3 w (.cells #[.slice A n c] 22) (.cells #[.int .u8 s] 5) (.cells #[.bool false] 4)
  have K2 := Aside0.mk k2
  have HB := Aside0.mk hbl
  clear k0 k1 k2 hbl
  go_wp2_with fail
  refine (awake.calls _).mono ?_
  rintro e w1 ⟨rfl, hb⟩
  have K3 := Aside0.mk (blk_below K2.out hb)
  have HB1 := Aside0.mk (below_step HB.out hb)
  have c3 : w1.cell? ⟨w.heap.size + 1 + 1, 0, none⟩ = some (.bool false) := (blk_cell K3.out 0).trans rfl
  have f3 : w1.frozen? ⟨w.heap.size + 1 + 1, 0, none⟩ = false := blk_frozen K3.out 0
  clear hb
  go_wp2_with fail
  have hc := (blk_cell (set_heap (u := .bool true) K3.out) 0).trans rfl
  exact bodyPost_ret (v := .bool true) (by simp [results, Try.results3, go_sem, hc]) rfl ⟨rfl, HB1.out.setCell (p := ⟨w.heap.size + 1 + 1, 0, none⟩) (by show _ ≤ w.heap.size + 1 + 1; omega) _⟩
theorem Ends.row (A : Option Addr) (c : Nat) (l : List Int) (stop : Int) (w : World) (hC : D_int.C w A l.length l) (hc : l.length ≤ c) (_ : l.length * 8 ≤ 140737488351232) (ht : (Lit.int .u8 stop).wf = true) :
    Calls Try.prog 3 #[.slice A l.length c, .int .u8 stop] w fun e w' => e = .returned (.bool true) ∧ Below w.heap.size w w' := by
  obtain ⟨h0, h1⟩ := u8_bounds ht
  obtain ⟨s, rfl⟩ := Int.eq_ofNat_of_zero_le h0
  by_cases h : l.length ≤ 300
  · exact Ends1.calls A c l s w hC hc h (by omega)
  · exact Ends0.calls A c l.length s w (by omega)

end Go.Proofs.Ytlopceimlipemaa.Rope
