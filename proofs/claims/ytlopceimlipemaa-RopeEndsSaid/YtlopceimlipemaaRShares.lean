import Derived.Test.YtlopceimlipemaaRRow
import Derived.Test.YtlopceimlipemaaRAwake
import Derived.Test.YtlopceimlipemaaRClone
import Derived.Test.YtlopceimlipemaaRShF
import Derived.Test.YtlopceimlipemaaRPart
namespace Go.Proofs.Ytlopceimlipemaa.Rope
open Go.RowKit Go.Proofs.YtlopceimlipemaaW.PrintWords Go.Proofs.YtlopceimlipemaaW.PrintLast Go.Proofs.YtlopceimlipemaaW.PrintMore Go.Shelf
set_option linter.unusedVariables false
set_option linter.unusedSimpArgs false
set_option maxRecDepth 100000 in
set_option maxHeartbeats 4000000 in
theorem Shares0.calls (A : Option Addr) (c : Nat) (l : List Int) (times at_ : Int) (w : World) (hl : 20 < l.length ∨ l.length = 0) :
    Calls Try.prog 6 #[.slice A l.length c, .int .u8 times, .int .u64 at_] w fun e w' => e = .returned (.bool true) ∧ Below w.heap.size w w' := by
  obtain ⟨n, hn⟩ : ∃ n, n = l.length := ⟨_, rfl⟩
  rw [← hn] at hl ⊢
  clear hn
  by_cases h1 : 20 < n
  · have d1 : decide ((20 : Int) < (n : Int)) = true := by simp; omega
    have d2 : decide (20 < n) = true := by simp; omega
    go_enter Try.func6, Try.ntmps6
    go_wp2_with fail
    refine (awake.calls w).mono ?_
    rintro e w1 ⟨rfl, hb⟩
    have HB := Aside0.mk hb
    clear hb
    go_wp2_with fail
    go_ret
    exact ⟨rfl, HB.out⟩
  · obtain rfl : n = 0 := by omega
    go_enter Try.func6, Try.ntmps6
    go_wp2_with fail
    refine (awake.calls w).mono ?_
    rintro e w1 ⟨rfl, hb⟩
    have HB := Aside0.mk hb
    clear hb
    go_wp2_with fail
    go_ret
    exact ⟨rfl, HB.out⟩
theorem sub_nums (m i : Nat) (h : i < m) (h2 : m ≤ 21990232555520) : wrap64 ((m : Int) - (i : Int)) = ((m - i : Nat) : Int) := by unfold wrap64; omega
theorem sh_end (q dd : Nat) (hq : q ≤ 40) (h : dd ≤ 2 + q) : decide ((dd : Int) ≤ 2 * ((q : Int) + 6)) = true ∧ (dd : Int) ≤ 2 * ((q : Int) + 6) := ⟨by simp; omega, by omega⟩
theorem flatMap_int (l : List Int) : l.flatMap K_int.enc = l.map (.int .i64 : Int → Value) := by
  induction l with
  | nil => rfl
  | cons x r ih => simp only [List.flatMap_cons, List.map_cons, ih]; rfl
theorem some_of_len {α : Type} : ∀ S : Option (Tr α), 1 ≤ lenO S → ∃ t, S = some t
  | none, h => by simp [lenO] at h
  | some t, _ => ⟨t, rfl⟩
/-- The first cell of a row of one's own. -/
theorem first_int {w : World} {base n : Nat} {e : TypeId} {v u : Value} {xs : List Value} (h : w.ownsRow base e 1 v n xs) (hn : 0 < n) (hu : xs[0]? = some u) :
    ∃ g p, v = .slice (some ⟨g, 0, none⟩) n p ∧ base ≤ g ∧ ∃ cur, w.heap[g]? = some (.cells cur e (0, 0)) ∧ cur[0]? = some u := by
  rcases h.2 with ⟨_, h0⟩ | ⟨g, p, cur, rfl, hb, hk, _, _, _, htake⟩
  · omega
  · refine ⟨g, p, rfl, hb, cur, hk, ?_⟩
    rw [← htake, List.getElem?_take] at hu
    split at hu
    · simpa using hu
    · cases hu
set_option maxRecDepth 100000 in
set_option maxHeartbeats 4000000 in
theorem Shares1.calls (A : Option Addr) (c : Nat) (l : List Int) (times at_ : Int) (w : World) (hC : D_int.C w A l.length l) (hc : l.length ≤ c) (h1 : 1 ≤ l.length) (h2 : l.length ≤ 20) (ht0 : 0 ≤ times) (ht1 : times < 256) (ha0 : 0 ≤ at_) (ha1 : at_ < 18446744073709551616) :
    Calls Try.prog 6 #[.slice A l.length c, .int .u8 times, .int .u64 at_] w fun e w' => e = .returned (.bool true) ∧ Below w.heap.size w w' := by
  obtain ⟨n, hn⟩ : ∃ n, n = l.length := ⟨_, rfl⟩
  rw [← hn] at hC hc h1 h2 ⊢
  have HN := Aside0.mk hn
  have HC := Aside0.mk hC
  have d1 : decide ((20 : Int) < (n : Int)) = false := by simp; omega
  have d2 : decide (20 < n) = false := by simp; omega
  have d3 : ((n : Int) == 0) = false := by simp; omega
  have d4 : (n == 0) = false := by simp; omega
  clear hn hC
  go_enter Try.func6, Try.ntmps6
  go_wp2_with fail
  have hcl := Clone_int.calls A c l w (by rw [← HN.out]; exact HC.out) (by rw [← HN.out]; omega) (by rw [← HN.out]; exact hc) (by rw [← HN.out]; omega)
  rw [← HN.out] at hcl
  refine hcl.mono ?_
  clear hcl
  rintro e w1 ⟨v1, rfl, hr1, hb1⟩
  obtain ⟨y, r, hyr⟩ : ∃ y r, l = y :: r := by
    cases l with
    | nil => have := HN.out; simp at this; omega
    | cons y r => exact ⟨y, r, rfl⟩
  obtain ⟨g1, p1, rfl, hg1, cur1, hk1, hy1⟩ := first_int hr1 (by omega) (by rw [hyr]; rfl)
  have hC1 : D_int.C w1 (some ⟨g1, 0, none⟩) n l := by
    obtain ⟨A', c', e', hc', hC'⟩ := own_C_int hr1 HN.out.symm
    cases e'; exact hC'
  have hp1 : n ≤ p1 := by obtain ⟨A', c', e', hc', hC'⟩ := own_C_int hr1 HN.out.symm; cases e'; exact hc'
  have HYR := Aside0.mk hyr
  have C1 := Aside0.mk hC1
  have K1 := Aside0.mk hk1
  have Y1 := Aside0.mk hy1
  have B1 := Aside0.mk hb1
  clear hr1 hC1 hk1 hy1 hb1 hyr
  go_wp2_with fail
  refine (Of_int.calls (some ⟨g1, 0, none⟩) p1 n l _ HN.out.symm C1.out hp1 (by omega)).mono ?_
  rintro e w2 ⟨g2, rfl, hO2, hb2⟩
  obtain ⟨T, hT⟩ : ∃ T, T = buildT l := ⟨_, rfl⟩
  rw [← hT] at hO2
  have hTl : lenO T = n := by rw [hT, ← listO_len, buildT_list, HN.out]
  have HT := Aside0.mk hT
  have HTL := Aside0.mk hTl
  have hb2a : Below w2.heap.size w2 (w2.alloc (.cells #[.pointer g2] 26)) := (Below.refl _ w2).alloc (Nat.le_refl _) _
  have K2 := Aside0.mk (blk_below K1.out hb2)
  have K2' := Aside0.mk (blk_below K1.out (below_step hb2 hb2a))
  have O2 := Aside0.mk hO2
  have B2 := Aside0.mk (below_step B1.out hb2)
  have hn0 : (0 : Int) < (n : Int) := by omega
  have cy : (w2.alloc (.cells #[.pointer g2] 26)).cell? ⟨g1, 0, none⟩ = some (.int .i64 y) := (blk_cell K2'.out 0).trans Y1.out
  have fy := blk_frozen K2'.out 0
  have hgb : g1 < w2.heap.size := Nat.lt_of_lt_of_le (Array.getElem?_eq_some_iff.1 K1.out).1 hb2.size
  clear hT hTl hO2 hb2 hb2a K1 B1 C1
  go_wp2_with fail
  obtain ⟨W3, hW3⟩ : ∃ W3, (w2.setCell ⟨g1, 0, none⟩ (.int .i64 (wrap64 (y + 1)))).alloc (.cells #[.pointer g2] 26) = W3 := ⟨_, rfl⟩
  have hsz3 : (w2.setCell ⟨g1, 0, none⟩ (.int .i64 (wrap64 (y + 1)))).heap.size = w2.heap.size := by simp
  have hx3 := heap_new (w2.setCell ⟨g1, 0, none⟩ (.int .i64 (wrap64 (y + 1)))) (.cells #[.pointer g2] 26)
  have ho3 : IsO K_int W3 g2 T := by
    rw [← hW3]
    exact IsO.below ((Below.refl _ _).alloc (Nat.le_refl _) _) (IsO.set _ K2.out (by decide) O2.out)
  have hb3 : Below w.heap.size w W3 := by
    rw [← hW3]
    exact (B2.out.setCell (p := ⟨g1, 0, none⟩) hg1 _).alloc (by rw [hsz3]; exact B2.out.size) _
  rw [hsz3, hW3] at hx3
  have hs3 : W3.heap.size = w2.heap.size + 1 := by rw [← hW3]; simp
  have hB2 : w.heap.size ≤ w2.heap.size := B2.out.size
  have B2_ := Aside0.mk (show w.heap.size ≤ W3.heap.size from hb3.size)
  rw [hW3]
  have N3 := Aside0.mk hx3
  have O3 := Aside0.mk ho3
  have B3 := Aside0.mk hb3
  clear hW3 hsz3 hx3 ho3 hb3 cy fy hgb K2 K2' O2 B2
  refine (List_int.calls g2 T W3 O3.out (by have := HTL.out; omega)).mono ?_
  rintro e w4 ⟨v4, rfl, hr4, _, hb4⟩
  rw [show (listO T) = l by rw [HT.out, buildT_list], ← HN.out] at hr4
  obtain ⟨g4, p4, rfl, hg4, cur4, hk4, hy4⟩ := first_int hr4 (by omega) (by rw [HYR.out]; rfl)
  have N4 := Aside0.mk (blk_below N3.out hb4)
  have O4 := Aside0.mk (O3.out.below hb4)
  have B4 := Aside0.mk (below_step B3.out hb4)
  have K4 := Aside0.mk hk4
  have cy : w4.cell? ⟨g4, 0, none⟩ = some (.int .i64 y) := (blk_cell hk4 0).trans hy4
  have fy := blk_frozen hk4 0
  clear N3 O3 B3 hb4 hk4 hy4 hr4
  go_wp2_with fail
  obtain ⟨W5, hW5⟩ : ∃ W5, w4.setCell ⟨g4, 0, none⟩ (.int .i64 (wrap64 (y + 2))) = W5 := ⟨_, rfl⟩
  have hN5 : W5.heap[w2.heap.size]? = some (.cells #[.pointer g2] 26 (0, 0)) := by
    rw [← hW5]
    exact (Below.heap_setCell w4 ⟨g4, 0, none⟩ _ w2.heap.size (by simp; omega)).trans N4.out
  have hO5 : IsO K_int W5 g2 T := by rw [← hW5]; exact IsO.set _ K4.out (by decide) O4.out
  have hB3 : w.heap.size ≤ W3.heap.size := by have := B2_.out; omega
  have hB5 : Below w.heap.size w W5 := by rw [← hW5]; exact B4.out.setCell (p := ⟨g4, 0, none⟩) (Nat.le_trans hB3 hg4) _
  rw [hW5]
  have N5 := Aside0.mk hN5
  have O5 := Aside0.mk hO5
  have B5 := Aside0.mk hB5
  clear hW5 hN5 hO5 hB5 N4 O4 B4 K4 cy fy
  obtain ⟨k, hk, hk40⟩ : ∃ k : Nat, times % 41 = (k : Int) ∧ k ≤ 40 := ⟨(times % 41).toNat, by omega, by omega⟩
  rw [hk]
  have hlen : ∀ q, q ≤ 40 → lenO (iterJ T q) ≤ 21990232555520 := fun q hq => by
    rw [iterJ_len, HTL.out]
    have h40 : 2 ^ q ≤ 2 ^ 40 := Nat.pow_le_pow_right (by omega) hq
    exact Nat.le_trans (Nat.mul_le_mul h2 h40) (by decide)
  have HL := Aside0.mk hlen
  clear hlen hk
  go_loopw [53] (fun v wr => ∃ q : Nat, v = .int .i64 q ∧ q ≤ k ∧ ∃ p, Aside0 (wr.heap[w2.heap.size]? = some (.cells #[.pointer p] 26 (0, 0))) ∧ Aside0 (IsO K_int wr p (iterJ T q)) ∧ Aside0 (Below w.heap.size w wr)) (fun v wr => k - (intOf v).toNat)
  case atStart => exact ⟨0, rfl, Nat.zero_le _, g2, N5, O5, B5⟩
  case round =>
    obtain ⟨q, rfl, hq, p, NR, OR, BR⟩ := hrel
    have cb : wr.cell? ⟨w2.heap.size, 0, none⟩ = some (.pointer p) := (blk_cell NR.out 0).trans rfl
    by_cases hlt : q < k
    · have hlb : decide ((q : Int) < (k : Int)) = true := by simp; omega
      have hlb2 : decide (q < k) = true := by simp; omega
      go_wp2_with fail
      refine (RJoin_int.calls p p (iterJ T q) (iterJ T q) wr OR.out OR.out (by have := HL.out q (by omega); omega)).mono ?_
      rintro e w6 ⟨p6, rfl, hO6, hb6⟩
      have hN6 := blk_below NR.out hb6
      have N6 := Aside0.mk hN6
      have O6 := Aside0.mk hO6
      have B6 := Aside0.mk (below_step BR.out hb6)
      have cb6 : w6.cell? ⟨w2.heap.size, 0, none⟩ = some (.pointer p) := (blk_cell hN6 0).trans rfl
      have fb6 := blk_frozen hN6 0
      clear hN6 hO6 hb6 cb
      go_wp2_with fail
      go_roundw
      case rel => exact ⟨q + 1, by go_num, by omega, p6, ⟨set_heap N6.out⟩, ⟨IsO.set _ N6.out (by decide) O6.out⟩, ⟨B6.out.setCell (p := ⟨w2.heap.size, 0, none⟩) hB2 _⟩⟩
      case measure => simp [intOf]; omega
    · obtain rfl : q = k := by omega
      have hlb : decide ((q : Int) < (q : Int)) = false := by simp
      have hlb2 : decide (q < q) = false := by simp
      obtain ⟨S, hS⟩ : ∃ S, S = iterJ T q := ⟨_, rfl⟩
      obtain ⟨m, hm⟩ : ∃ m, m = n * 2 ^ q := ⟨_, rfl⟩
      have hm2 : m ≤ 21990232555520 := by have := HL.out q hk40; rw [iterJ_len, HTL.out, ← hm] at this; exact this
      have hm1 : 1 ≤ m := by rw [hm]; exact Nat.mul_pos h1 (Nat.two_pow_pos q)
      obtain ⟨hsh, hu, hm0, hm0'⟩ := sh_nums n q m at_ hm hm1 hm2
      obtain ⟨i, hi, him, hwi, hwi1⟩ := sh_ix m at_ hm1 hm2
      obtain ⟨x, hF⟩ := sh_facts l T S n q m i HT.out HN.out h1 h2 hS hm him
      have hF := Aside0.mk hF
      rw [← hS] at OR
      obtain ⟨t, ht⟩ := some_of_len S (by rw [hF.out.len]; exact hm1)
      have HT2 := Aside0.mk ht
      have HMM := Aside0.mk (And.intro him (And.intro hm1 hm2))
      clear hS hm ht hlb hlb2 hlt him hm1 hm2
      go_wp2_with fail
      have hIs : IsN K_int wr p t := by have := OR.out; rw [HT2.out] at this; exact this
      have hlt' : t.len = m := by have := hF.out.len; rw [HT2.out] at this; exact this
      have hm4 : m ≤ 4611686018427387904 := Nat.le_trans HMM.out.2.2 (by decide)
      have hel : t.list[i]? = some x := by have := hF.out.elt; rw [HT2.out] at this; exact this
      refine (At1_int.calls p i t wr hIs (by rw [hlt']; exact hm4) x hel).mono ?_
      rintro e w6 ⟨rfl, hb6⟩
      have N6 := Aside0.mk (blk_below NR.out hb6)
      have O6 := Aside0.mk (OR.out.below hb6)
      have B6 := Aside0.mk (below_step BR.out hb6)
      have c6 : w6.cell? ⟨w2.heap.size, 0, none⟩ = some (.pointer p) := (blk_cell N6.out 0).trans rfl
      have HM4 := Aside0.mk hm4
      clear cb hIs hlt' hm4 hel hb6 NR OR BR
      go_wp2_with fail
      refine (Part_int.calls p i ((i : Int) + 1) S w6 O6.out (by rw [hF.out.len]; exact HM4.out)).mono ?_
      rintro e w7 ⟨g7, rfl, hO7, hb7⟩
      obtain ⟨t7, ht7⟩ := some_of_len (partO S (i : Int) ((i : Int) + 1)) (by rw [← listO_len, hF.out.part]; exact Nat.le_refl _)
      have hl7 : t7.list = [x] := by have := hF.out.part; rw [ht7] at this; exact this
      rw [ht7] at hO7
      have L7 := Aside0.mk hl7
      have P7 := Aside0.mk hO7
      have N7 := Aside0.mk (blk_below N6.out hb7)
      have O7 := Aside0.mk (O6.out.below hb7)
      have B7 := Aside0.mk (below_step B6.out hb7)
      clear ht7 hl7 hO7 hb7 N6 O6 B6 c6
      go_wp2_with fail
      refine (At1_int.calls g7 0 t7 w7 P7.out (by rw [← Tr.list_len, L7.out]; exact (by decide : 1 ≤ 4611686018427387904)) x (by rw [L7.out]; rfl)).mono ?_
      rintro e w8 ⟨rfl, hb8⟩
      have N8 := Aside0.mk (blk_below N7.out hb8)
      have O8 := Aside0.mk (O7.out.below hb8)
      have B8 := Aside0.mk (below_step B7.out hb8)
      have c8 : w8.cell? ⟨w2.heap.size, 0, none⟩ = some (.pointer p) := (blk_cell N8.out 0).trans rfl
      clear hb8 N7 O7 B7 P7 L7
      go_wp2_with fail
      refine (RSplit_int.calls p i S w8 O8.out (by rw [hF.out.len]; exact HM4.out)).mono ?_
      rintro e w9 ⟨ga, gb, rfl, hOa, hOb, hb9⟩
      obtain ⟨k1, k2, hb10⟩ := alloc2 w9 (.cells #[.pointer ga] 26) (.cells #[.pointer gb] 26)
      obtain ⟨W10, hW10⟩ : ∃ W, (w9.alloc (.cells #[.pointer ga] 26)).alloc (.cells #[.pointer gb] 26) = W := ⟨_, rfl⟩
      rw [hW10] at k1 k2 hb10
      have c10 : W10.cell? ⟨w2.heap.size, 0, none⟩ = some (.pointer p) := (blk_cell (blk_below N8.out (below_step hb9 hb10)) 0).trans rfl
      have N10 := Aside0.mk (blk_below N8.out (below_step hb9 hb10))
      have O10 := Aside0.mk (O8.out.below (below_step hb9 hb10))
      have B10 := Aside0.mk (below_step B8.out (below_step hb9 hb10))
      have OA := Aside0.mk (hOa.below hb10)
      have OB := Aside0.mk (hOb.below hb10)
      have M1 := Aside0.mk k1
      have M2 := Aside0.mk k2
      clear hb9 hb10 hOa hOb N8 O8 B8 c8 k1 k2
      go_wp2_with fail
      refine (Len_int.calls p S W10 O10.out (by rw [hF.out.len]; exact HM4.out)).mono ?_
      rintro e w11 ⟨rfl, hb11⟩
      rw [hF.out.len]
      have N11 := Aside0.mk (blk_below N10.out hb11)
      have O11 := Aside0.mk (O10.out.below hb11)
      have B11 := Aside0.mk (below_step B10.out hb11)
      have OA11 := Aside0.mk (OA.out.below hb11)
      have OB11 := Aside0.mk (OB.out.below hb11)
      have M1' := Aside0.mk (blk_below M1.out hb11)
      have M2' := Aside0.mk (blk_below M2.out hb11)
      have ca : w11.cell? ⟨w9.heap.size, 0, none⟩ = some (.pointer ga) := (blk_cell M1'.out 0).trans rfl
      clear hb11 hW10 c10 N10 O10 B10 OA OB M1 M2
      have hin : i % n < n := Nat.mod_lt _ h1
      have hmod : (i : Int) % (n : Int) = ((i % n : Nat) : Int) := rfl
      have hmod2 : Int.tmod (i : Int) (n : Int) = ((i % n : Nat) : Int) := rfl
      obtain ⟨j, hj⟩ : ∃ j, j = i % n := ⟨_, rfl⟩
      rw [← hj] at hmod hmod2 hin
      have hj0 : (0 : Int) ≤ (j : Int) := Int.natCast_nonneg _
      have hjn : (j : Int) < (n : Int) := by omega
      have hn00 : ¬ (n : Int) = 0 := by omega
      have hwj : wrap64 (j : Int) = (j : Int) := by clear hmod hmod2 hj; unfold wrap64; omega
      obtain ⟨ad, had, hcx⟩ : ∃ ad, A = some ad ∧ w11.cell? (ad.add j) = some (.int .i64 x) := by
        obtain ⟨ad, e1, e2⟩ := C_cells_int (show D_int.C w11 A l.length l by rw [← HN.out]; exact Kd.C_below HC.out B11.out) (by rw [← HN.out]; exact h1)
        refine ⟨ad, e1, e2 j _ ?_⟩
        rw [flatMap_int, List.getElem?_map, hj, hF.out.org]
        rfl
      subst had
      have HJ := Aside0.mk hj
      clear hj
      go_wp2_with fail
      obtain ⟨mi, hmi, hmw⟩ : ∃ mi, mi = m - i ∧ wrap64 ((m : Int) - (i : Int)) = (mi : Int) := ⟨m - i, rfl, sub_nums m i HMM.out.1 HMM.out.2.2⟩
      obtain ⟨dd, hdd, hdle⟩ : ∃ dd, htO S = dd ∧ dd ≤ 2 + q := ⟨_, rfl, hF.out.ht⟩
      obtain ⟨hz1, hz2⟩ := sh_end q dd hk40 hdle
      have HMI := Aside0.mk hmi
      have HDD := Aside0.mk hdd
      clear hmi hdd hdle
      refine (Len_int.calls ga _ w11 OA11.out (by rw [hF.out.a]; exact Nat.le_trans (Nat.le_of_lt HMM.out.1) HM4.out)).mono ?_
      rintro e w12 ⟨rfl, hb12⟩
      rw [hF.out.a]
      have N12 := Aside0.mk (blk_below N11.out hb12)
      have O12 := Aside0.mk (O11.out.below hb12)
      have B12 := Aside0.mk (below_step B11.out hb12)
      have OB12 := Aside0.mk (OB11.out.below hb12)
      have M2'' := Aside0.mk (blk_below M2'.out hb12)
      have cb12 : w12.cell? ⟨w9.heap.size + 1, 0, none⟩ = some (.pointer gb) := (blk_cell M2''.out 0).trans rfl
      clear hb12 ca hcx N11 O11 B11 OA11 OB11 M1' M2'
      go_wp2_with fail
      refine (Len_int.calls gb _ w12 OB12.out (by rw [hF.out.b]; exact Nat.le_trans (Nat.sub_le _ _) HM4.out)).mono ?_
      rintro e w13 ⟨rfl, hb13⟩
      rw [hF.out.b, ← HMI.out]
      have N13 := Aside0.mk (blk_below N12.out hb13)
      have O13 := Aside0.mk (O12.out.below hb13)
      have B13 := Aside0.mk (below_step B12.out hb13)
      have cp13 : w13.cell? ⟨w2.heap.size, 0, none⟩ = some (.pointer p) := (blk_cell N13.out 0).trans rfl
      clear hb13 cb12 N12 O12 B12 OB12 M2''
      go_wp2_with fail
      refine (Depth_int.calls p S w13 O13.out).mono ?_
      rintro e w14 ⟨rfl, hb14⟩
      rw [HDD.out]
      have B14 := Aside0.mk (below_step B13.out hb14)
      clear hb14 cp13 N13 O13 B13
      go_wp2_with fail
      refine (awake.calls w14).mono ?_
      rintro e w15 ⟨rfl, hb15⟩
      have B15 := Aside0.mk (below_step B14.out hb15)
      clear hb15 B14
      go_wp2_with fail
      go_ret
      exact ⟨rfl, B15.out⟩

theorem Shares.calls (A : Option Addr) (c : Nat) (l : List Int) (times at_ : Int) (w : World) (hC : D_int.C w A l.length l) (hc : l.length ≤ c) (ht0 : 0 ≤ times) (ht1 : times < 256) (ha0 : 0 ≤ at_) (ha1 : at_ < 18446744073709551616) :
    Calls Try.prog 6 #[.slice A l.length c, .int .u8 times, .int .u64 at_] w fun e w' => e = .returned (.bool true) ∧ Below w.heap.size w w' := by
  by_cases h : 1 ≤ l.length ∧ l.length ≤ 20
  · exact Shares1.calls A c l times at_ w hC hc h.1 h.2 ht0 ht1 ha0 ha1
  · exact Shares0.calls A c l times at_ w (by omega)

theorem Shares.row (A : Option Addr) (c : Nat) (l : List Int) (times at_ : Int) (w : World) (hC : D_int.C w A l.length l) (hc : l.length ≤ c) (_ : l.length * 8 ≤ 140737488351232) (ht : (Lit.int .u8 times).wf = true) (ha : (Lit.int .u64 at_).wf = true) :
    Calls Try.prog 6 #[.slice A l.length c, .int .u8 times, .int .u64 at_] w fun e w' => e = .returned (.bool true) ∧ Below w.heap.size w w' :=
  Shares.calls A c l times at_ w hC hc (u8_bounds ht).1 (u8_bounds ht).2 (u64_bounds ha).1 (u64_bounds ha).2

end Go.Proofs.Ytlopceimlipemaa.Rope
