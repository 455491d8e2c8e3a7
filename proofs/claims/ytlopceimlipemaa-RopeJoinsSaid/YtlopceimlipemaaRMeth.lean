import Derived.Test.YtlopceimlipemaaRBuild
import Derived.Test.YtlopceimlipemaaRMore
namespace Go.Proofs.Ytlopceimlipemaa.Rope
open Go.RowKit Go.Proofs.YtlopceimlipemaaW.PrintWords Go.Proofs.YtlopceimlipemaaW.PrintLast Go.Proofs.YtlopceimlipemaaW.PrintMore
set_option linter.unusedVariables false
set_option linter.unusedSimpArgs false
attribute [local go_sem] max2_int min2_int max_two min_two max_three min_three max_four min_four

theorem build_int.calls (A : Option Addr) (c n : Nat) (xs : List Int) (w : World) (hn : xs.length = n) (hC : D_int.C w A n xs) (hc : n ≤ c) (hm : n ≤ 4611686018427387904) :
    Calls Try.prog 47 #[.slice A n c] w fun e w' => ∃ g, e = .returned (.pointer g) ∧ IsO K_int w' g (buildT xs) ∧ Below w.heap.size w w' := builds_int n A c n xs w (Nat.le_refl _) hn hC hc hm
set_option maxRecDepth 100000 in
set_option maxHeartbeats 4000000 in
theorem Of_int.calls (A : Option Addr) (c n : Nat) (xs : List Int) (w : World) (hn : xs.length = n) (hC : D_int.C w A n xs) (hc : n ≤ c) (hm : n ≤ 4611686018427387904) :
    Calls Try.prog 11 #[.slice A n c] w fun e w' => ∃ g, e = .returned (.agg #[.pointer g]) ∧ IsO K_int w' g (buildT xs) ∧ Below w.heap.size w w' := by
  have HC := Aside0.mk hC
  have HN := Aside0.mk hn
  clear hn hC
  go_enter Try.func11, Try.ntmps11
  have hB0 : Below w.heap.size w (w.alloc (.cells #[.pointer none] 26)) := (Below.refl _ w).alloc (Nat.le_refl _) _
  have hN := heap_new w (.cells #[.pointer none] 26)
  have HB0 := Aside0.mk hB0
  have H0 := Aside0.mk hN
  clear hB0 hN
  go_wp2_with (go_at_call 47; with_reducible refine (build_int.calls A c n xs _ HN.out (Kd.C_below HC.out HB0.out) hc hm).mono ?_; rintro e w1 ⟨g, rfl, hO, hb⟩; have HO := Aside0.mk hO; have hN1 := blk_below H0.out hb; have HN1 := Aside0.mk hN1; have hc1 := (blk_cell hN1 0).trans rfl; have hf1 := blk_frozen hN1 0; have HB := Aside0.mk (below_step HB0.out hb); clear hO hb hN1)
  exact bodyPost_ret (v := .agg #[.pointer g]) (by simp [results, Try.results11, go_sem, hc1]) rfl ⟨g, rfl, IsO.set _ HN1.out (by decide) HO.out, HB.out.setCell (p := ⟨w.heap.size, 0, none⟩) (Nat.le_refl _) _⟩
set_option maxRecDepth 100000 in
set_option maxHeartbeats 4000000 in
theorem Len_int.calls (p : Option Addr) (t : Option (Tr Int)) (w : World) (h : IsO K_int w p t) (hs : lenO t ≤ 4611686018427387904) :
    Calls Try.prog 28 #[.agg #[.pointer p]] w fun e w' => e = .returned (.int .i64 (lenO t : Int)) ∧ Below w.heap.size w w' := by
  cases t with
  | none =>
    obtain rfl : p = none := h
    go_enter Try.func28, Try.ntmps28
    go_wp2
    go_ret
    exact ⟨rfl, (Below.refl _ w).alloc (Nat.le_refl _) _⟩
  | some t =>
    obtain ⟨b, _, _, rfl, a0, _⟩ := IsN.node h
    have hB0 : Below w.heap.size w (w.alloc (.cells #[.pointer (some ⟨b, 0, none⟩)] 26)) := (Below.refl _ w).alloc (Nat.le_refl _) _
    have a0' := pw_cell_below hB0 a0
    have HB0 := Aside0.mk hB0
    clear h hB0
    have hs' : t.len ≤ 4611686018427387904 := hs
    go_enter Try.func28, Try.ntmps28
    go_wp2
    go_ret
    exact ⟨rfl, HB0.out⟩
set_option maxRecDepth 100000 in
set_option maxHeartbeats 4000000 in
theorem RJoin_int.calls (p q : Option Addr) (a b : Option (Tr Int)) (w : World) (ha : IsO K_int w p a) (hb : IsO K_int w q b) (hs : lenO a + lenO b ≤ 4611686018427387904) :
    Calls Try.prog 22 #[.agg #[.pointer p], .agg #[.pointer q]] w fun e w' => ∃ g, e = .returned (.agg #[.pointer g]) ∧ IsO K_int w' g (joinO a b) ∧ Below w.heap.size w w' := by
  have HA := Aside0.mk ha
  have HB := Aside0.mk hb
  have hB0 : Below w.heap.size w (((w.alloc (.cells #[.pointer p] 26)).alloc (.cells #[.pointer q] 26)).alloc (.cells #[.pointer none] 26)) := (((Below.refl _ w).alloc (Nat.le_refl _) _).alloc (by simp) _).alloc (by simp; omega) _
  have hN := heap_new ((w.alloc (.cells #[.pointer p] 26)).alloc (.cells #[.pointer q] 26)) (.cells #[.pointer none] 26)
  rw [World.size_alloc, World.size_alloc] at hN
  have HB0 := Aside0.mk hB0
  have H0 := Aside0.mk hN
  clear ha hb hB0 hN
  go_enter Try.func22, Try.ntmps22
  go_wp2_with (go_at_call 55; with_reducible refine (join_int.calls p q a b _ (HA.out.below HB0.out) (HB.out.below HB0.out) hs).mono ?_; rintro e w1 ⟨g, rfl, hO, hb⟩; have HO := Aside0.mk hO; have hN1 := blk_below H0.out hb; have HN1 := Aside0.mk hN1; have hc1 := (blk_cell hN1 0).trans rfl; have hf1 := blk_frozen hN1 0; have HB1 := Aside0.mk (below_step HB0.out hb); clear hO hb hN1)
  exact bodyPost_ret (v := .agg #[.pointer g]) (by simp [results, Try.results22, go_sem, hc1]) rfl ⟨g, rfl, IsO.set _ HN1.out (by decide) HO.out, HB1.out.setCell (p := ⟨w.heap.size + 1 + 1, 0, none⟩) (by simp; omega) _⟩
set_option maxRecDepth 100000 in
set_option maxHeartbeats 4000000 in
theorem RSplit_int.calls (p : Option Addr) (n : Int) (a : Option (Tr Int)) (w : World) (ha : IsO K_int w p a) (hs : lenO a ≤ 4611686018427387904) :
    Calls Try.prog 16 #[.agg #[.pointer p], .int .i64 n] w fun e w' => ∃ g h, e = .returned (.tuple #[.agg #[.pointer g], .agg #[.pointer h]]) ∧ IsO K_int w' g (splitO a n).1 ∧ IsO K_int w' h (splitO a n).2 ∧ Below w.heap.size w w' := by
  have HA := Aside0.mk ha
  clear ha
  obtain ⟨_, n1, n2, n3⟩ := alloc3 w (.cells #[.pointer p] 26) (.cells #[.pointer none] 26) (.cells #[.pointer none] 26)
  have N1 := Aside0.mk n1
  have N2 := Aside0.mk n2
  have N3 := Aside0.mk n3
  clear n1 n2 n3
  go_enter Try.func16, Try.ntmps16
  go_wp2_with fail
  refine (split_int.calls p n a _ (HA.out.below N3.out) hs).mono ?_
  rintro e w1 ⟨g, h, rfl, hg, hh, hb⟩
  have hm1 := blk_below N1.out hb
  have hm2 := blk_below N2.out hb
  have M1 := Aside0.mk hm1
  have M2 := Aside0.mk hm2
  have HG := Aside0.mk hg
  have HH := Aside0.mk hh
  have HB := Aside0.mk (below_step N3.out hb)
  have hc1 : w1.cell? ⟨w.heap.size + 1, 0, none⟩ = some (.pointer none) := (blk_cell hm1 0).trans rfl
  have hf1 := blk_frozen hm1 0
  have hc2 : w1.cell? ⟨w.heap.size + 1 + 1, 0, none⟩ = some (.pointer none) := (blk_cell hm2 0).trans rfl
  have hf2 := blk_frozen hm2 0
  clear hm1 hm2 hg hh hb
  go_wp2_with fail
  have k1 := set_other (b := w.heap.size + 1 + 1) (u := .pointer h) (set_heap (u := .pointer g) M1.out) (by omega)
  have k2 := set_heap (u := .pointer h) (set_other (b := w.heap.size + 1) (u := .pointer g) M2.out (by omega))
  have c1 := (blk_cell k1 0).trans rfl
  have c2 := (blk_cell k2 0).trans rfl
  exact bodyPost_ret (v := .tuple #[.agg #[.pointer g], .agg #[.pointer h]]) (by simp [results, Try.results16, go_sem, c1, c2]) rfl ⟨g, h, rfl, IsO.set _ (set_other M2.out (by omega)) (by decide) (IsO.set _ M1.out (by decide) HG.out), IsO.set _ (set_other M2.out (by omega)) (by decide) (IsO.set _ M1.out (by decide) HH.out), (HB.out.setCell (p := ⟨w.heap.size + 1, 0, none⟩) (by simp) _).setCell (p := ⟨w.heap.size + 1 + 1, 0, none⟩) (by simp; omega) _⟩
set_option maxRecDepth 100000 in
set_option maxHeartbeats 4000000 in
theorem Depth_int.calls (p : Option Addr) (t : Option (Tr Int)) (w : World) (h : IsO K_int w p t) :
    Calls Try.prog 30 #[.agg #[.pointer p]] w fun e w' => e = .returned (.int .i64 (htO t : Int)) ∧ Below w.heap.size w w' := by
  cases t with
  | none =>
    obtain rfl : p = none := h
    go_enter Try.func30, Try.ntmps30
    go_wp2
    go_ret
    exact ⟨rfl, (Below.refl _ w).alloc (Nat.le_refl _) _⟩
  | some t =>
    obtain ⟨b, _, _, rfl, _, a0, _⟩ := IsN.node h
    have hB0 : Below w.heap.size w (w.alloc (.cells #[.pointer (some ⟨b, 0, none⟩)] 26)) := (Below.refl _ w).alloc (Nat.le_refl _) _
    have a0' := pw_cell_below hB0 a0
    have HB0 := Aside0.mk hB0
    clear h hB0
    go_enter Try.func30, Try.ntmps30
    go_wp2
    go_ret
    exact ⟨rfl, HB0.out⟩
set_option maxRecDepth 100000 in
set_option maxHeartbeats 4000000 in
theorem bounds_int.calls (p : Option Addr) (from_ to_ : Int) (t : Option (Tr Int)) (w : World) (h : IsO K_int w p t) (hs : lenO t ≤ 4611686018427387904) :
    Calls Try.prog 53 #[.agg #[.pointer p], .int .i64 from_, .int .i64 to_] w fun e w' => e = .returned (.tuple #[.int .i64 (mn (mx from_ 0) (lenO t)), .int .i64 (mx (mn (mx to_ 0) (lenO t)) (mn (mx from_ 0) (lenO t)))]) ∧ Below w.heap.size w w' := by
  have H := Aside0.mk h
  have hB0 : Below w.heap.size w (w.alloc (.cells #[.pointer p] 26)) := (Below.refl _ w).alloc (Nat.le_refl _) _
  have HB0 := Aside0.mk hB0
  clear h hB0
  go_enter Try.func53, Try.ntmps53
  go_wp2_with fail
  all_goals
    refine (Len_int.calls p t _ (H.out.below HB0.out) hs).mono ?_
    rintro e w1 ⟨rfl, hb⟩
    have H1 := Aside0.mk (below_step HB0.out hb)
    have hn1 := blk_below (heap_new w _) hb
    have HN1 := Aside0.mk hn1
    have hc1 : w1.cell? ⟨w.heap.size, 0, none⟩ = some (.pointer p) := (blk_cell hn1 0).trans rfl
    clear hn1 hb
    go_wp2_with fail
    all_goals
      refine (Len_int.calls p t _ (H.out.below H1.out) hs).mono ?_
      rintro e w2 ⟨rfl, hb⟩
      have H2 := Aside0.mk (below_step H1.out hb)
      clear hb
      go_wp2_with fail
      all_goals
        go_ret2
        refine ⟨?_, H2.out⟩
        simp only [mn, mx]
        repeat' split
        all_goals first | rfl | (exfalso; omega) | (simp; omega)

end Go.Proofs.Ytlopceimlipemaa.Rope

namespace Go.Proofs.Ytlopceimlipemaa.Rope
open Go.RowKit Go.Proofs.YtlopceimlipemaaW.PrintWords Go.Proofs.YtlopceimlipemaaW.PrintLast Go.Proofs.YtlopceimlipemaaW.PrintMore
set_option linter.unusedVariables false
set_option linter.unusedSimpArgs false
attribute [local go_sem] max2_int min2_int max_two min_two max_three min_three max_four min_four

theorem build_string.calls (A : Option Addr) (c n : Nat) (xs : List ByteArray) (w : World) (hn : xs.length = n) (hC : D_string.C w A n xs) (hc : n ≤ c) (hm : n ≤ 4611686018427387904) :
    Calls Try.prog 63 #[.slice A n c] w fun e w' => ∃ g, e = .returned (.pointer g) ∧ IsO K_string w' g (buildT xs) ∧ Below w.heap.size w w' := builds_string n A c n xs w (Nat.le_refl _) hn hC hc hm
set_option maxRecDepth 100000 in
set_option maxHeartbeats 4000000 in
theorem Of_string.calls (A : Option Addr) (c n : Nat) (xs : List ByteArray) (w : World) (hn : xs.length = n) (hC : D_string.C w A n xs) (hc : n ≤ c) (hm : n ≤ 4611686018427387904) :
    Calls Try.prog 41 #[.slice A n c] w fun e w' => ∃ g, e = .returned (.agg #[.pointer g]) ∧ IsO K_string w' g (buildT xs) ∧ Below w.heap.size w w' := by
  have HC := Aside0.mk hC
  have HN := Aside0.mk hn
  clear hn hC
  go_enter Try.func41, Try.ntmps41
  have hB0 : Below w.heap.size w (w.alloc (.cells #[.pointer none] 74)) := (Below.refl _ w).alloc (Nat.le_refl _) _
  have hN := heap_new w (.cells #[.pointer none] 74)
  have HB0 := Aside0.mk hB0
  have H0 := Aside0.mk hN
  clear hB0 hN
  go_wp2_with (go_at_call 63; with_reducible refine (build_string.calls A c n xs _ HN.out (Kd.C_below HC.out HB0.out) hc hm).mono ?_; rintro e w1 ⟨g, rfl, hO, hb⟩; have HO := Aside0.mk hO; have hN1 := blk_below H0.out hb; have HN1 := Aside0.mk hN1; have hc1 := (blk_cell hN1 0).trans rfl; have hf1 := blk_frozen hN1 0; have HB := Aside0.mk (below_step HB0.out hb); clear hO hb hN1)
  exact bodyPost_ret (v := .agg #[.pointer g]) (by simp [results, Try.results41, go_sem, hc1]) rfl ⟨g, rfl, IsO.set _ HN1.out (by decide) HO.out, HB.out.setCell (p := ⟨w.heap.size, 0, none⟩) (Nat.le_refl _) _⟩
set_option maxRecDepth 100000 in
set_option maxHeartbeats 4000000 in
theorem Len_string.calls (p : Option Addr) (t : Option (Tr ByteArray)) (w : World) (h : IsO K_string w p t) (hs : lenO t ≤ 4611686018427387904) :
    Calls Try.prog 46 #[.agg #[.pointer p]] w fun e w' => e = .returned (.int .i64 (lenO t : Int)) ∧ Below w.heap.size w w' := by
  cases t with
  | none =>
    obtain rfl : p = none := h
    go_enter Try.func46, Try.ntmps46
    go_wp2
    go_ret
    exact ⟨rfl, (Below.refl _ w).alloc (Nat.le_refl _) _⟩
  | some t =>
    obtain ⟨b, _, _, rfl, a0, _⟩ := IsN.node h
    have hB0 : Below w.heap.size w (w.alloc (.cells #[.pointer (some ⟨b, 0, none⟩)] 74)) := (Below.refl _ w).alloc (Nat.le_refl _) _
    have a0' := pw_cell_below hB0 a0
    have HB0 := Aside0.mk hB0
    clear h hB0
    have hs' : t.len ≤ 4611686018427387904 := hs
    go_enter Try.func46, Try.ntmps46
    go_wp2
    go_ret
    exact ⟨rfl, HB0.out⟩
set_option maxRecDepth 100000 in
set_option maxHeartbeats 4000000 in
theorem RSplit_string.calls (p : Option Addr) (n : Int) (a : Option (Tr ByteArray)) (w : World) (ha : IsO K_string w p a) (hs : lenO a ≤ 4611686018427387904) :
    Calls Try.prog 43 #[.agg #[.pointer p], .int .i64 n] w fun e w' => ∃ g h, e = .returned (.tuple #[.agg #[.pointer g], .agg #[.pointer h]]) ∧ IsO K_string w' g (splitO a n).1 ∧ IsO K_string w' h (splitO a n).2 ∧ Below w.heap.size w w' := by
  have HA := Aside0.mk ha
  clear ha
  obtain ⟨_, n1, n2, n3⟩ := alloc3 w (.cells #[.pointer p] 74) (.cells #[.pointer none] 74) (.cells #[.pointer none] 74)
  have N1 := Aside0.mk n1
  have N2 := Aside0.mk n2
  have N3 := Aside0.mk n3
  clear n1 n2 n3
  go_enter Try.func43, Try.ntmps43
  go_wp2_with fail
  refine (split_string.calls p n a _ (HA.out.below N3.out) hs).mono ?_
  rintro e w1 ⟨g, h, rfl, hg, hh, hb⟩
  have hm1 := blk_below N1.out hb
  have hm2 := blk_below N2.out hb
  have M1 := Aside0.mk hm1
  have M2 := Aside0.mk hm2
  have HG := Aside0.mk hg
  have HH := Aside0.mk hh
  have HB := Aside0.mk (below_step N3.out hb)
  have hc1 : w1.cell? ⟨w.heap.size + 1, 0, none⟩ = some (.pointer none) := (blk_cell hm1 0).trans rfl
  have hf1 := blk_frozen hm1 0
  have hc2 : w1.cell? ⟨w.heap.size + 1 + 1, 0, none⟩ = some (.pointer none) := (blk_cell hm2 0).trans rfl
  have hf2 := blk_frozen hm2 0
  clear hm1 hm2 hg hh hb
  go_wp2_with fail
  have k1 := set_other (b := w.heap.size + 1 + 1) (u := .pointer h) (set_heap (u := .pointer g) M1.out) (by omega)
  have k2 := set_heap (u := .pointer h) (set_other (b := w.heap.size + 1) (u := .pointer g) M2.out (by omega))
  have c1 := (blk_cell k1 0).trans rfl
  have c2 := (blk_cell k2 0).trans rfl
  exact bodyPost_ret (v := .tuple #[.agg #[.pointer g], .agg #[.pointer h]]) (by simp [results, Try.results43, go_sem, c1, c2]) rfl ⟨g, h, rfl, IsO.set _ (set_other M2.out (by omega)) (by decide) (IsO.set _ M1.out (by decide) HG.out), IsO.set _ (set_other M2.out (by omega)) (by decide) (IsO.set _ M1.out (by decide) HH.out), (HB.out.setCell (p := ⟨w.heap.size + 1, 0, none⟩) (by simp) _).setCell (p := ⟨w.heap.size + 1 + 1, 0, none⟩) (by simp; omega) _⟩
set_option maxRecDepth 100000 in
set_option maxHeartbeats 4000000 in
theorem bounds_string.calls (p : Option Addr) (from_ to_ : Int) (t : Option (Tr ByteArray)) (w : World) (h : IsO K_string w p t) (hs : lenO t ≤ 4611686018427387904) :
    Calls Try.prog 64 #[.agg #[.pointer p], .int .i64 from_, .int .i64 to_] w fun e w' => e = .returned (.tuple #[.int .i64 (mn (mx from_ 0) (lenO t)), .int .i64 (mx (mn (mx to_ 0) (lenO t)) (mn (mx from_ 0) (lenO t)))]) ∧ Below w.heap.size w w' := by
  have H := Aside0.mk h
  have hB0 : Below w.heap.size w (w.alloc (.cells #[.pointer p] 74)) := (Below.refl _ w).alloc (Nat.le_refl _) _
  have HB0 := Aside0.mk hB0
  clear h hB0
  go_enter Try.func64, Try.ntmps64
  go_wp2_with fail
  all_goals
    refine (Len_string.calls p t _ (H.out.below HB0.out) hs).mono ?_
    rintro e w1 ⟨rfl, hb⟩
    have H1 := Aside0.mk (below_step HB0.out hb)
    have hn1 := blk_below (heap_new w _) hb
    have HN1 := Aside0.mk hn1
    have hc1 : w1.cell? ⟨w.heap.size, 0, none⟩ = some (.pointer p) := (blk_cell hn1 0).trans rfl
    clear hn1 hb
    go_wp2_with fail
    all_goals
      refine (Len_string.calls p t _ (H.out.below H1.out) hs).mono ?_
      rintro e w2 ⟨rfl, hb⟩
      have H2 := Aside0.mk (below_step H1.out hb)
      clear hb
      go_wp2_with fail
      all_goals
        go_ret2
        refine ⟨?_, H2.out⟩
        simp only [mn, mx]
        repeat' split
        all_goals first | rfl | (exfalso; omega) | (simp; omega)

end Go.Proofs.Ytlopceimlipemaa.Rope
