import Derived.Test.YtlopceimlipemaaRMeth
import Derived.Deep.LoopGhost
namespace Go.Proofs.Ytlopceimlipemaa.Rope
open Go.RowKit Go.Proofs.YtlopceimlipemaaW.PrintWords Go.Proofs.YtlopceimlipemaaW.PrintLast Go.Proofs.YtlopceimlipemaaW.PrintMore
set_option linter.unusedVariables false
set_option linter.unusedSimpArgs false

set_option maxRecDepth 100000 in
set_option maxHeartbeats 4000000 in
theorem At0_int.calls (p : Option Addr) (i : Int) (t : Option (Tr Int)) (w : World) (h : IsO K_int w p t) (hs : lenO t ≤ 4611686018427387904) (hi : i < 0 ∨ (lenO t : Int) ≤ i) :
    Calls Try.prog 15 #[.agg #[.pointer p], .int .i64 i] w fun e w' => e = .returned (.tuple #[Value.int .i64 0, .bool false]) ∧ Below w.heap.size w w' := by
  have H := Aside0.mk h
  clear h
  have hB0 : Below w.heap.size w (w.alloc (.cells #[.pointer p] 26)) := (Below.refl _ w).alloc (Nat.le_refl _) _
  have HB0 := Aside0.mk hB0
  clear hB0
  by_cases h0 : i < 0
  · clear hi
    go_enter Try.func15, Try.ntmps15
    go_wp2
    go_ret2
    exact ⟨rfl, HB0.out⟩
  · have h1 : (lenO t : Int) ≤ i := by rcases hi with h | h; exact absurd h h0; exact h
    have h0' : 0 ≤ i := by omega
    clear hi h0
    go_enter Try.func15, Try.ntmps15
    go_wp2_with fail
    refine (Len_int.calls p t _ (H.out.below HB0.out) hs).mono ?_
    rintro e w1 ⟨rfl, hb⟩
    have H1 := Aside0.mk (below_step HB0.out hb)
    clear hb
    go_wp2_with fail
    go_ret2
    exact ⟨rfl, H1.out⟩
/-- The element with an index, in a tree. -/
theorem IsN.item_int {w : World} {p : Option Addr} {xs : List Int} (h : IsN K_int w p (.leaf xs)) (i : Nat) (hi : i < xs.length) : ∃ b, p = some ⟨b, 0, none⟩ ∧ w.cell? ⟨b, 4 + i, none⟩ = some (((.int .i64 : Int → Value)) xs[i]) := by
  obtain ⟨b, rfl, h1, h2, h3⟩ := h
  refine ⟨b, rfl, ?_⟩
  have hC := leaf_C_int h3 h2
  obtain ⟨ad, he, hc⟩ := hC.2.2 (by omega)
  cases he
  obtain ⟨c, hl, hk, hcc⟩ := hc i xs[i] (List.getElem?_eq_getElem hi)
  have hk' : c = [((.int .i64 : Int → Value)) xs[i]] := hk
  subst hk'
  have := hcc 0 _ rfl
  rw [add_off] at this
  simpa [D_int, Kd.int, Kd.string, Kd.scalar] using this
set_option maxRecDepth 100000 in
set_option maxHeartbeats 4000000 in
theorem At1_int.calls (p : Option Addr) (i : Nat) (t : Tr Int) (w : World) (h : IsN K_int w p t) (hs : t.len ≤ 4611686018427387904) (x : Int) (hi : t.list[i]? = some x) :
    Calls Try.prog 15 #[.agg #[.pointer p], .int .i64 i] w fun e w' => e = .returned (.tuple #[((.int .i64 : Int → Value)) x, .bool true]) ∧ Below w.heap.size w w' := by
  have H := Aside0.mk h
  have hil : i < t.len := by rw [← t.list_len]; exact (List.getElem?_eq_some_iff.1 hi).1
  have HX := Aside0.mk hi
  have HS := Aside0.mk hs
  clear h hi
  have hB0 : Below w.heap.size w (w.alloc (.cells #[.pointer p] 26)) := (Below.refl _ w).alloc (Nat.le_refl _) _
  have HB0 := Aside0.mk hB0
  clear hB0
  have h0 : (0 : Int) ≤ (i : Int) := Int.natCast_nonneg _
  have e0 : decide ((lenO (some t) : Int) ≤ (i : Int)) = false := by show decide ((t.len : Int) ≤ (i : Int)) = false; simp; omega
  have e0' : decide (lenO (some t) ≤ i) = false := by show decide (t.len ≤ i) = false; simp; omega
  go_enter Try.func15, Try.ntmps15
  go_wp2_with fail
  refine (Len_int.calls p (some t) _ (H.out.below HB0.out) hs).mono ?_
  rintro e w1 ⟨rfl, hb⟩
  have H1 := Aside0.mk (below_step HB0.out hb)
  have hn1 := blk_below (heap_new w _) hb
  have hc1 : w1.cell? ⟨w.heap.size, 0, none⟩ = some (.pointer p) := (blk_cell hn1 0).trans rfl
  clear hb hn1
  have G := Aside0.mk (H.out.below H1.out)
  go_wp2_with fail
  clear hil e0 e0' hc1 hs
  go_loopg [1, 6] t.ht (fun g u v W => ∃ (j : Nat) (q : Option Addr) (s : Tr Int), u = .int .i64 j ∧ v = .pointer q ∧ W = w1 ∧ Aside0 (IsN K_int w1 q s) ∧ Aside0 (s.list[j]? = some x) ∧ Aside0 (s.ht ≤ g) ∧ Aside0 (s.len ≤ 4611686018427387904))
  case atStart => exact ⟨i, p, t, rfl, rfl, rfl, G, HX, ⟨Nat.le_refl _⟩, HS⟩
  case round =>
    obtain ⟨j, q, s, rfl, rfl, rfl, GS, GX, GH, GL⟩ := hrel
    cases s with
    | leaf xs =>
      have hj : j < xs.length := (List.getElem?_eq_some_iff.1 GX.out).1
      have hx : xs[j] = x := (List.getElem?_eq_some_iff.1 GX.out).2
      obtain ⟨b, rfl, hit⟩ := IsN.item_int GS.out j hj
      obtain ⟨_, he, x1, x16, h3⟩ := GS.out
      cases he
      have a1 : wr.cell? ⟨b, 1, none⟩ = some (.int .i64 1) := (blk_cell h3 1).trans rfl
      have j16 : (j : Int) < 16 := by omega
      have j16' : j < 16 := by omega
      have j0 : (0 : Int) ≤ (j : Int) := Int.natCast_nonneg _
      rw [hx] at hit
      clear h3 hx hj
      go_wp2
      go_ret2
      exact ⟨rfl, H1.out⟩
    | fork a b =>
      obtain ⟨bn, la, lb, rfl, _, a1, a2, a3, hla, hlb⟩ := IsN.node GS.out
      obtain ⟨bl, _, _, rfl, l0, _, _, _, _⟩ := IsN.node hla
      have hll : a.len + b.len ≤ 4611686018427387904 := GL.out
      have hpos := Tr.ht_pos a
      obtain ⟨h, hh⟩ : ∃ h : Nat, h = (Tr.fork a b).ht := ⟨_, rfl⟩
      rw [← hh] at a1
      have hle : a.ht + 1 ≤ h ∧ b.ht + 1 ≤ h := by rw [hh]; simp only [Tr.ht]; omega
      have hg : h ≤ gk := by rw [hh]; exact GH.out
      have h2 : 2 ≤ h := by omega
      obtain ⟨g', rfl⟩ : ∃ g', gk = g' + 1 := ⟨gk - 1, by omega⟩
      have HLA := Aside0.mk hla
      have HLB := Aside0.mk hlb
      have hsp : (Tr.fork a b).list = a.list ++ b.list := rfl
      by_cases hja : j < a.len
      · have GX' : Aside0 (a.list[j]? = some x) := ⟨by have := GX.out; rwa [hsp, List.getElem?_append_left (by rw [a.list_len]; exact hja)] at this⟩
        clear hh hla hlb hsp GX
        go_wp2
        go_roundg g'
        case measure => omega
        case rel => exact ⟨j, _, a, rfl, rfl, rfl, HLA, GX', ⟨by omega⟩, ⟨by omega⟩⟩
      · have GX' : Aside0 (b.list[j - a.len]? = some x) := ⟨by have := GX.out; rwa [hsp, List.getElem?_append_right (by rw [a.list_len]; omega), a.list_len] at this⟩
        have hjl : j < 4611686018427387904 := by
          have h_ := (List.getElem?_eq_some_iff.1 GX.out).1
          rw [Tr.list_len] at h_
          have h2_ : (Tr.fork a b).len = a.len + b.len := rfl
          omega
        clear hh hla hlb hsp GX
        go_wp2
        go_roundg g'
        case measure => omega
        case rel => exact ⟨j - a.len, _, b, by go_num, rfl, rfl, HLB, GX', ⟨by omega⟩, ⟨by omega⟩⟩

end Go.Proofs.Ytlopceimlipemaa.Rope

namespace Go.Proofs.Ytlopceimlipemaa.Rope
open Go.RowKit Go.Proofs.YtlopceimlipemaaW.PrintWords Go.Proofs.YtlopceimlipemaaW.PrintLast Go.Proofs.YtlopceimlipemaaW.PrintMore
set_option linter.unusedVariables false
set_option linter.unusedSimpArgs false

/-- The element with an index, in a tree. -/
theorem IsN.item_string {w : World} {p : Option Addr} {xs : List ByteArray} (h : IsN K_string w p (.leaf xs)) (i : Nat) (hi : i < xs.length) : ∃ b, p = some ⟨b, 0, none⟩ ∧ w.cell? ⟨b, 4 + i, none⟩ = some ((Value.string) xs[i]) := by
  obtain ⟨b, rfl, h1, h2, h3⟩ := h
  refine ⟨b, rfl, ?_⟩
  have hC := leaf_C_string h3 h2
  obtain ⟨ad, he, hc⟩ := hC.2.2 (by omega)
  cases he
  obtain ⟨c, hl, hk, hcc⟩ := hc i xs[i] (List.getElem?_eq_getElem hi)
  have hk' : c = [(Value.string) xs[i]] := hk
  subst hk'
  have := hcc 0 _ rfl
  rw [add_off] at this
  simpa [D_string, Kd.int, Kd.string, Kd.scalar] using this
end Go.Proofs.Ytlopceimlipemaa.Rope
