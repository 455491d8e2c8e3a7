import Derived.Test.YtlopceimlipemaaRMeth
namespace Go.Proofs.Ytlopceimlipemaa.Rope
open Go.RowKit Go.Proofs.YtlopceimlipemaaW.PrintWords Go.Proofs.YtlopceimlipemaaW.PrintLast Go.Proofs.YtlopceimlipemaaW.PrintMore
set_option linter.unusedVariables false
set_option linter.unusedSimpArgs false

set_option maxRecDepth 100000 in
set_option maxHeartbeats 4000000 in
theorem Part_int.calls (p : Option Addr) (from_ to_ : Int) (t : Option (Tr Int)) (w : World) (h : IsO K_int w p t) (hs : lenO t ≤ 4611686018427387904) :
    Calls Try.prog 18 #[.agg #[.pointer p], .int .i64 from_, .int .i64 to_] w fun e w' => ∃ g, e = .returned (.agg #[.pointer g]) ∧ IsO K_int w' g (partO t from_ to_) ∧ Below w.heap.size w w' := by
  have H := Aside0.mk h
  clear h
  obtain ⟨n1, n2, n3⟩ := alloc2 w (.cells #[.pointer p] 26) (.cells #[.pointer none] 26)
  have N1 := Aside0.mk n1
  have N2 := Aside0.mk n2
  have N3 := Aside0.mk n3
  clear n1 n2 n3
  go_enter Try.func18, Try.ntmps18
  go_wp2_with fail
  refine (bounds_int.calls p from_ to_ t _ (H.out.below N3.out) hs).mono ?_
  rintro e w1 ⟨rfl, hb⟩
  show _
  have hl : mn (mx from_ 0) (lenO t) = loB (lenO t) from_ := rfl
  have hh : mx (mn (mx to_ 0) (lenO t)) (mn (mx from_ 0) (lenO t)) = hiB (lenO t) from_ to_ := rfl
  rw [hh, hl]
  clear hh hl
  have M1 := Aside0.mk (blk_below N1.out hb)
  have M2 := Aside0.mk (blk_below N2.out hb)
  have B1 := Aside0.mk (below_step N3.out hb)
  have hc1 : w1.cell? ⟨w.heap.size, 0, none⟩ = some (.pointer p) := (blk_cell M1.out 0).trans rfl
  clear hb
  go_wp2_with fail
  refine (split_int.calls p (hiB (lenO t) from_ to_) t _ (H.out.below B1.out) hs).mono ?_
  rintro e w2 ⟨g1, g2, rfl, hg1, hg2, hb⟩
  have M3 := Aside0.mk (blk_below M2.out hb)
  have B2 := Aside0.mk (below_step B1.out hb)
  have G1 := Aside0.mk hg1
  have hs1 : lenO (splitO t (hiB (lenO t) from_ to_)).1 ≤ 4611686018427387904 := by have := splitO_len t (hiB (lenO t) from_ to_); omega
  clear hb hg1 hg2 hc1
  go_wp2_with fail
  refine (split_int.calls g1 (loB (lenO t) from_) (splitO t (hiB (lenO t) from_ to_)).1 _ G1.out hs1).mono ?_
  rintro e w3 ⟨g3, g4, rfl, hg3, hg4, hb⟩
  have hn4 := blk_below M3.out hb
  have M4 := Aside0.mk hn4
  have B3 := Aside0.mk (below_step B2.out hb)
  have G4 := Aside0.mk hg4
  have hc : w3.cell? ⟨w.heap.size + 1, 0, none⟩ = some (.pointer none) := (blk_cell hn4 0).trans rfl
  have hf := blk_frozen hn4 0
  clear hb hg3 hg4 hn4
  go_wp2_with fail
  have c1 := (blk_cell (set_heap (u := .pointer g4) M4.out) 0).trans rfl
  exact bodyPost_ret (v := .agg #[.pointer g4]) (by simp [results, Try.results18, go_sem, c1]) rfl ⟨g4, rfl, IsO.set _ M4.out (by decide) G4.out, B3.out.setCell (p := ⟨w.heap.size + 1, 0, none⟩) (by simp) _⟩
set_option maxRecDepth 100000 in
set_option maxHeartbeats 4000000 in
theorem Replace_int.calls (p q : Option Addr) (from_ to_ : Int) (t s : Option (Tr Int)) (w : World) (h : IsO K_int w p t) (hq : IsO K_int w q s) (hs : lenO t + lenO s ≤ 2305843009213693952) :
    Calls Try.prog 20 #[.agg #[.pointer p], .int .i64 from_, .int .i64 to_, .agg #[.pointer q]] w fun e w' => ∃ g, e = .returned (.agg #[.pointer g]) ∧ IsO K_int w' g (replO t from_ to_ s) ∧ Below w.heap.size w w' := by
  have H := Aside0.mk h
  have HQ := Aside0.mk hq
  have hst : lenO t ≤ 4611686018427387904 := by omega
  clear h hq
  obtain ⟨n0, n1, n2, n3⟩ := alloc3 w (.cells #[.pointer p] 26) (.cells #[.pointer q] 26) (.cells #[.pointer none] 26)
  have N0 := Aside0.mk n0
  have N1 := Aside0.mk n1
  have N2 := Aside0.mk n2
  have N3 := Aside0.mk n3
  clear n0 n1 n2 n3
  go_enter Try.func20, Try.ntmps20
  go_wp2_with fail
  refine (bounds_int.calls p from_ to_ t _ (H.out.below N3.out) hst).mono ?_
  rintro e w1 ⟨rfl, hb⟩
  have hl : mn (mx from_ 0) (lenO t) = loB (lenO t) from_ := rfl
  have hh : mx (mn (mx to_ 0) (lenO t)) (mn (mx from_ 0) (lenO t)) = hiB (lenO t) from_ to_ := rfl
  rw [hh, hl]
  clear hh hl
  have M0 := Aside0.mk (blk_below N0.out hb)
  have M1 := Aside0.mk (blk_below N1.out hb)
  have M2 := Aside0.mk (blk_below N2.out hb)
  have B1 := Aside0.mk (below_step N3.out hb)
  have hc1 : w1.cell? ⟨w.heap.size, 0, none⟩ = some (.pointer p) := (blk_cell M0.out 0).trans rfl
  clear hb
  go_wp2_with fail
  refine (split_int.calls p (loB (lenO t) from_) t _ (H.out.below B1.out) hst).mono ?_
  rintro e w2 ⟨g1, g2, rfl, hg1, hg2, hb⟩
  have P0 := Aside0.mk (blk_below M0.out hb)
  have P1 := Aside0.mk (blk_below M1.out hb)
  have P2 := Aside0.mk (blk_below M2.out hb)
  have B2 := Aside0.mk (below_step B1.out hb)
  have G1 := Aside0.mk hg1
  have hc2 : w2.cell? ⟨w.heap.size, 0, none⟩ = some (.pointer p) := (blk_cell P0.out 0).trans rfl
  have hs1 := splitO_len t (loB (lenO t) from_)
  have hs2 := splitO_len t (hiB (lenO t) from_ to_)
  have L1 : Aside0 (lenO (splitO t (loB (lenO t) from_)).1 + lenO s ≤ 4611686018427387904) := ⟨by omega⟩
  have L2 : Aside0 (lenO (joinO (splitO t (loB (lenO t) from_)).1 s) + lenO (splitO t (hiB (lenO t) from_ to_)).2 ≤ 4611686018427387904) := ⟨by rw [joinO_len]; omega⟩
  clear hb hg1 hg2 hc1 hs1 hs2
  go_wp2_with fail
  refine (split_int.calls p (hiB (lenO t) from_ to_) t _ (H.out.below B2.out) hst).mono ?_
  rintro e w3 ⟨g3, g4, rfl, hg3, hg4, hb⟩
  have Q1 := Aside0.mk (blk_below P1.out hb)
  have Q2 := Aside0.mk (blk_below P2.out hb)
  have B3 := Aside0.mk (below_step B2.out hb)
  have G1' := Aside0.mk (G1.out.below hb)
  have G4 := Aside0.mk hg4
  have hc3 : w3.cell? ⟨w.heap.size + 1, 0, none⟩ = some (.pointer q) := (blk_cell Q1.out 0).trans rfl
  clear hb hg3 hg4 hc2
  go_wp2_with fail
  refine (join_int.calls g1 q _ s _ G1'.out (HQ.out.below B3.out) L1.out).mono ?_
  rintro e w4 ⟨g5, rfl, hg5, hb⟩
  have R2 := Aside0.mk (blk_below Q2.out hb)
  have B4 := Aside0.mk (below_step B3.out hb)
  have G5 := Aside0.mk hg5
  have G4' := Aside0.mk (G4.out.below hb)
  clear hb hg5 hc3
  go_wp2_with fail
  refine (join_int.calls g5 g4 _ _ _ G5.out G4'.out L2.out).mono ?_
  rintro e w5 ⟨g6, rfl, hg6, hb⟩
  have hn := blk_below R2.out hb
  have S2 := Aside0.mk hn
  have B5 := Aside0.mk (below_step B4.out hb)
  have G6 := Aside0.mk hg6
  have hc : w5.cell? ⟨w.heap.size + 1 + 1, 0, none⟩ = some (.pointer none) := (blk_cell hn 0).trans rfl
  have hf := blk_frozen hn 0
  clear hb hg6 hn
  go_wp2_with fail
  have c1 := (blk_cell (set_heap (u := .pointer g6) S2.out) 0).trans rfl
  exact bodyPost_ret (v := .agg #[.pointer g6]) (by simp [results, Try.results20, go_sem, c1]) rfl ⟨g6, rfl, IsO.set _ S2.out (by decide) G6.out, B5.out.setCell (p := ⟨w.heap.size + 1 + 1, 0, none⟩) (by simp; omega) _⟩

end Go.Proofs.Ytlopceimlipemaa.Rope

namespace Go.Proofs.Ytlopceimlipemaa.Rope
open Go.RowKit Go.Proofs.YtlopceimlipemaaW.PrintWords Go.Proofs.YtlopceimlipemaaW.PrintLast Go.Proofs.YtlopceimlipemaaW.PrintMore
set_option linter.unusedVariables false
set_option linter.unusedSimpArgs false

set_option maxRecDepth 100000 in
set_option maxHeartbeats 4000000 in
theorem Replace_string.calls (p q : Option Addr) (from_ to_ : Int) (t s : Option (Tr ByteArray)) (w : World) (h : IsO K_string w p t) (hq : IsO K_string w q s) (hs : lenO t + lenO s ≤ 2305843009213693952) :
    Calls Try.prog 42 #[.agg #[.pointer p], .int .i64 from_, .int .i64 to_, .agg #[.pointer q]] w fun e w' => ∃ g, e = .returned (.agg #[.pointer g]) ∧ IsO K_string w' g (replO t from_ to_ s) ∧ Below w.heap.size w w' := by
  have H := Aside0.mk h
  have HQ := Aside0.mk hq
  have hst : lenO t ≤ 4611686018427387904 := by omega
  clear h hq
  obtain ⟨n0, n1, n2, n3⟩ := alloc3 w (.cells #[.pointer p] 74) (.cells #[.pointer q] 74) (.cells #[.pointer none] 74)
  have N0 := Aside0.mk n0
  have N1 := Aside0.mk n1
  have N2 := Aside0.mk n2
  have N3 := Aside0.mk n3
  clear n0 n1 n2 n3
  go_enter Try.func42, Try.ntmps42
  go_wp2_with fail
  refine (bounds_string.calls p from_ to_ t _ (H.out.below N3.out) hst).mono ?_
  rintro e w1 ⟨rfl, hb⟩
  have hl : mn (mx from_ 0) (lenO t) = loB (lenO t) from_ := rfl
  have hh : mx (mn (mx to_ 0) (lenO t)) (mn (mx from_ 0) (lenO t)) = hiB (lenO t) from_ to_ := rfl
  rw [hh, hl]
  clear hh hl
  have M0 := Aside0.mk (blk_below N0.out hb)
  have M1 := Aside0.mk (blk_below N1.out hb)
  have M2 := Aside0.mk (blk_below N2.out hb)
  have B1 := Aside0.mk (below_step N3.out hb)
  have hc1 : w1.cell? ⟨w.heap.size, 0, none⟩ = some (.pointer p) := (blk_cell M0.out 0).trans rfl
  clear hb
  go_wp2_with fail
  refine (split_string.calls p (loB (lenO t) from_) t _ (H.out.below B1.out) hst).mono ?_
  rintro e w2 ⟨g1, g2, rfl, hg1, hg2, hb⟩
  have P0 := Aside0.mk (blk_below M0.out hb)
  have P1 := Aside0.mk (blk_below M1.out hb)
  have P2 := Aside0.mk (blk_below M2.out hb)
  have B2 := Aside0.mk (below_step B1.out hb)
  have G1 := Aside0.mk hg1
  have hc2 : w2.cell? ⟨w.heap.size, 0, none⟩ = some (.pointer p) := (blk_cell P0.out 0).trans rfl
  have hs1 := splitO_len t (loB (lenO t) from_)
  have hs2 := splitO_len t (hiB (lenO t) from_ to_)
  have L1 : Aside0 (lenO (splitO t (loB (lenO t) from_)).1 + lenO s ≤ 4611686018427387904) := ⟨by omega⟩
  have L2 : Aside0 (lenO (joinO (splitO t (loB (lenO t) from_)).1 s) + lenO (splitO t (hiB (lenO t) from_ to_)).2 ≤ 4611686018427387904) := ⟨by rw [joinO_len]; omega⟩
  clear hb hg1 hg2 hc1 hs1 hs2
  go_wp2_with fail
  refine (split_string.calls p (hiB (lenO t) from_ to_) t _ (H.out.below B2.out) hst).mono ?_
  rintro e w3 ⟨g3, g4, rfl, hg3, hg4, hb⟩
  have Q1 := Aside0.mk (blk_below P1.out hb)
  have Q2 := Aside0.mk (blk_below P2.out hb)
  have B3 := Aside0.mk (below_step B2.out hb)
  have G1' := Aside0.mk (G1.out.below hb)
  have G4 := Aside0.mk hg4
  have hc3 : w3.cell? ⟨w.heap.size + 1, 0, none⟩ = some (.pointer q) := (blk_cell Q1.out 0).trans rfl
  clear hb hg3 hg4 hc2
  go_wp2_with fail
  refine (join_string.calls g1 q _ s _ G1'.out (HQ.out.below B3.out) L1.out).mono ?_
  rintro e w4 ⟨g5, rfl, hg5, hb⟩
  have R2 := Aside0.mk (blk_below Q2.out hb)
  have B4 := Aside0.mk (below_step B3.out hb)
  have G5 := Aside0.mk hg5
  have G4' := Aside0.mk (G4.out.below hb)
  clear hb hg5 hc3
  go_wp2_with fail
  refine (join_string.calls g5 g4 _ _ _ G5.out G4'.out L2.out).mono ?_
  rintro e w5 ⟨g6, rfl, hg6, hb⟩
  have hn := blk_below R2.out hb
  have S2 := Aside0.mk hn
  have B5 := Aside0.mk (below_step B4.out hb)
  have G6 := Aside0.mk hg6
  have hc : w5.cell? ⟨w.heap.size + 1 + 1, 0, none⟩ = some (.pointer none) := (blk_cell hn 0).trans rfl
  have hf := blk_frozen hn 0
  clear hb hg6 hn
  go_wp2_with fail
  have c1 := (blk_cell (set_heap (u := .pointer g6) S2.out) 0).trans rfl
  exact bodyPost_ret (v := .agg #[.pointer g6]) (by simp [results, Try.results42, go_sem, c1]) rfl ⟨g6, rfl, IsO.set _ S2.out (by decide) G6.out, B5.out.setCell (p := ⟨w.heap.size + 1 + 1, 0, none⟩) (by simp; omega) _⟩

end Go.Proofs.Ytlopceimlipemaa.Rope
