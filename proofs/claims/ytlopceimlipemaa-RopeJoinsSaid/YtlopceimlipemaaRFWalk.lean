import Derived.Test.YtlopceimlipemaaRItems
import Derived.Stop.RegionWithIn
namespace Go.Proofs.Ytlopceimlipemaa.Rope
open Go.RowKit Go.Proofs.YtlopceimlipemaaW.PrintWords Go.Proofs.YtlopceimlipemaaW.PrintLast Go.Proofs.YtlopceimlipemaaW.PrintMore Go.Shelf
set_option linter.unusedVariables false
set_option linter.unusedSimpArgs false
attribute [local go_sem] Oper.semAt_some
set_option maxRecDepth 100000 in
set_option maxHeartbeats 4000000 in
/-- The closure of the left tree. -/
theorem left_int (w0 : World) (lp m N B : Nat) (J Jx : List (Int × Int) → World → Prop) (n1 n2 n3 n4 : Nat) (b : Nat) (al : Tr Int) (f : Int) (back : Bool) (pre : List (Int × Int)) (W : World)  (hw : Walks_int w0 lp m N J Jx al)
    (c0 : W.cell? ⟨n1, 0, none⟩ = some (.pointer (some ⟨b, 0, none⟩))) (c1 : W.cell? ⟨n2, 0, none⟩ = some (.int .i64 f)) (c2 : W.cell? ⟨n3, 0, none⟩ = some (.bool back)) (c3 : W.cell? ⟨n4, 0, none⟩ = some (.func (.yield lp) #[] #[]))
    (q : Option Addr) (hb : W.cell? ⟨b, 2, none⟩ = some (.pointer q)) (hq : IsN K_int w0 q al) (hB : Below w0.heap.size w0 W) (hm : m ≤ W.heap.size) (hJ : AbidesFrom B J) (hj : J pre W) (hN : pre.length + al.len ≤ N) (hf : 0 ≤ f) (hf1 : f + al.len ≤ 4611686018427387904) :
    Calls Try.prog 69 #[.pointer (some ⟨n1, 0, none⟩), .pointer (some ⟨n2, 0, none⟩), .pointer (some ⟨n3, 0, none⟩), .pointer (some ⟨n4, 0, none⟩)] W fun e W' =>
      (e = .returned (.bool true) ∧ J (pre ++ items_int (f) back al.list) W' ∧ KeepC w0.heap.size m W W') ∨
      (e = .returned (.bool false) ∧ ∃ q, q <+: items_int (f) back al.list ∧ Jx (pre ++ q) W') := by
  have hjd : J pre W.drew := hJ _ W W.drew none hj (grown_of_below (below_drew (Below.refl _ _)) none) (fun r e => by cases e)
  have hR := hw q (f) back pre W.drew hq (hB.trans ((below_drew (Below.refl _ _)).mono hB.size)) hm hjd hN (by omega) hf1
  have HKD := Aside0.mk (KeepC.ofBelow (m := m) (below_drew (Below.refl W.heap.size W)) hB.size)
  clear hw hjd hj hJ hq hB
  go_enter Try.func69, Try.ntmps69
  go_wp2
  go_still_tail 7, (by kernel_rfl)
  change wpList _ _ _ _ _ W.drew
  generalize W.drew = W1 at hR HKD ⊢
  go_wp2_with fail
  refine hR.mono ?_
  rintro e W2 h
  rcases h with ⟨rfl, h2⟩ | ⟨rfl, h2⟩
  · go_wp2
    go_ret
    exact .inl ⟨rfl, h2.1, HKD.out.trans h2.2⟩
  · go_wp2
    go_ret
    exact .inr ⟨rfl, h2⟩
set_option maxRecDepth 100000 in
set_option maxHeartbeats 4000000 in
/-- The closure of the right tree. -/
theorem right_int (w0 : World) (lp m N B : Nat) (J Jx : List (Int × Int) → World → Prop) (n1 n2 n3 n4 : Nat) (b : Nat) (al ar : Tr Int) (bl : Nat) (f : Int) (back : Bool) (pre : List (Int × Int)) (W : World) (hbl : W.cell? ⟨b, 2, none⟩ = some (.pointer (some ⟨bl, 0, none⟩))) (hll : W.cell? ⟨bl, 0, none⟩ = some (.int .i64 (al.len : Int))) (hw : Walks_int w0 lp m N J Jx ar)
    (c0 : W.cell? ⟨n1, 0, none⟩ = some (.pointer (some ⟨b, 0, none⟩))) (c1 : W.cell? ⟨n2, 0, none⟩ = some (.int .i64 f)) (c2 : W.cell? ⟨n3, 0, none⟩ = some (.bool back)) (c3 : W.cell? ⟨n4, 0, none⟩ = some (.func (.yield lp) #[] #[]))
    (q : Option Addr) (hb : W.cell? ⟨b, 3, none⟩ = some (.pointer q)) (hq : IsN K_int w0 q ar) (hB : Below w0.heap.size w0 W) (hm : m ≤ W.heap.size) (hJ : AbidesFrom B J) (hj : J pre W) (hN : pre.length + ar.len ≤ N) (hf : 0 ≤ f) (hf1 : f + al.len + ar.len ≤ 4611686018427387904) :
    Calls Try.prog 70 #[.pointer (some ⟨n1, 0, none⟩), .pointer (some ⟨n2, 0, none⟩), .pointer (some ⟨n3, 0, none⟩), .pointer (some ⟨n4, 0, none⟩)] W fun e W' =>
      (e = .returned (.bool true) ∧ J (pre ++ items_int (f + al.len) back ar.list) W' ∧ KeepC w0.heap.size m W W') ∨
      (e = .returned (.bool false) ∧ ∃ q, q <+: items_int (f + al.len) back ar.list ∧ Jx (pre ++ q) W') := by
  have hjd : J pre W.drew := hJ _ W W.drew none hj (grown_of_below (below_drew (Below.refl _ _)) none) (fun r e => by cases e)
  have hR := hw q (f + al.len) back pre W.drew hq (hB.trans ((below_drew (Below.refl _ _)).mono hB.size)) hm hjd hN (by omega) hf1
  have HKD := Aside0.mk (KeepC.ofBelow (m := m) (below_drew (Below.refl W.heap.size W)) hB.size)
  have hwr : IntKind.i64.wrap (f + (al.len : Int)) = f + (al.len : Int) := IntWalk.i64_in _ (by omega)
  clear hw hjd hj hJ hq hB
  go_enter Try.func70, Try.ntmps70
  go_wp2
  go_still_tail 15, (by kernel_rfl)
  change wpList _ _ _ _ _ W.drew
  generalize W.drew = W1 at hR HKD ⊢
  go_wp2_with fail
  refine hR.mono ?_
  rintro e W2 h
  rcases h with ⟨rfl, h2⟩ | ⟨rfl, h2⟩
  · go_wp2
    go_ret
    exact .inl ⟨rfl, h2.1, HKD.out.trans h2.2⟩
  · go_wp2
    go_ret
    exact .inr ⟨rfl, h2⟩
set_option maxRecDepth 100000 in
set_option maxHeartbeats 4000000 in
/-- A fork's walk. -/
theorem forkwalk_int (w0 : World) (lp m N B : Nat) (J Jx : List (Int × Int) → World → Prop) (hJ : AbidesFrom B J) (al ar : Tr Int) (hal : Walks_int w0 lp m N J Jx al) (har : Walks_int w0 lp m N J Jx ar) : Walks_int w0 lp m N J Jx (.fork al ar) := by
  intro p f back pre W hC hB hm hj hN hf0 hf1
  have hlen : (Tr.fork al ar).len = al.len + ar.len := rfl
  obtain ⟨b, l, r, rfl, b0, b1, b2, b3, ha, hc⟩ := hC.node
  obtain ⟨bl, _, _, rfl, bl0, _⟩ := ha.node
  obtain ⟨k0, k1, k2, k3, hb4⟩ := alloc4 W (.cells #[.pointer (some ⟨b, 0, none⟩)] 24) (.cells #[.int .i64 f] 3) (.cells #[.bool back] 4) (.cells #[.func (.yield lp) #[] #[]] 44)
  have HK4 := Aside0.mk (KeepC.ofBelow (m := m) hb4 hB.size)
  have HJ4 := Aside0.mk (hJ _ W _ none hj ((((World.grownBy_alloc W _ none).trans (World.grownBy_alloc _ _ none)).trans (World.grownBy_alloc _ _ none)).trans (World.grownBy_alloc _ _ none)) (fun r e => by cases e) : J pre ((((W.alloc (.cells #[.pointer (some ⟨b, 0, none⟩)] 24)).alloc (.cells #[.int .i64 f] 3)).alloc (.cells #[.bool back] 4)).alloc (.cells #[.func (.yield lp) #[] #[]] 44)))
  have hsz := hb4.size
  have hp := Tr.ht_pos al
  have hht : (Tr.fork al ar).ht = max al.ht ar.ht + 1 := rfl
  have hd1 : (((Tr.fork al ar).ht : Int) == 1) = false := by simp only [beq_eq_false_iff_ne, ne_eq, hht]; omega
  have HA := Aside0.mk (And.intro ha hal)
  have HC := Aside0.mk (And.intro hc har)
  have a5 := (hB.trans HK4.out.below).cell (World.block_lt_of_cell? w0 _ b2) |>.trans b2
  have a6 := (hB.trans HK4.out.below).cell (World.block_lt_of_cell? w0 _ b3) |>.trans b3
  have a7 := (hB.trans HK4.out.below).cell (World.block_lt_of_cell? w0 _ bl0) |>.trans bl0
  have a8 := (hB.trans HK4.out.below).cell (World.block_lt_of_cell? w0 _ b1) |>.trans b1
  have K0 := Aside0.mk k0
  have K1 := Aside0.mk k1
  have K2 := Aside0.mk k2
  have K3 := Aside0.mk k3
  have B2 := Aside0.mk b2
  have B3 := Aside0.mk b3
  have BL := Aside0.mk bl0
  clear k0 k1 k2 k3 ha hc hal har b0 b1 b2 b3 bl0 hC hht hb4 hj
  go_enter Try.func50, Try.ntmps50
  cases back
  · go_wp2_with fail
    obtain ⟨W4, hW4⟩ : ∃ W4, ((((W.alloc (.cells #[.pointer (some ⟨b, 0, none⟩)] 24)).alloc (.cells #[.int .i64 f] 3)).alloc (.cells #[.bool false] 4)).alloc (.cells #[.func (.yield lp) #[] #[]] 44)) = W4 := ⟨_, rfl⟩
    rw [hW4] at K0 K1 K2 K3 HK4 HJ4 a5 a6 a7 a8 hsz ⊢
    clear hW4
    have a0 : W4.cell? ⟨W.heap.size, 0, none⟩ = some (.pointer (some ⟨b, 0, none⟩)) := (blk_cell K0.out 0).trans rfl
    have a1 : W4.cell? ⟨W.heap.size + 1, 0, none⟩ = some (.int .i64 f) := (blk_cell K1.out 0).trans rfl
    have a2 : W4.cell? ⟨W.heap.size + 1 + 1, 0, none⟩ = some (.bool false) := (blk_cell K2.out 0).trans rfl
    have a3 : W4.cell? ⟨W.heap.size + 1 + 1 + 1, 0, none⟩ = some (.func (.yield lp) #[] #[]) := (blk_cell K3.out 0).trans rfl
    refine (left_int w0 lp m N B J Jx W.heap.size (W.heap.size + 1) (W.heap.size + 1 + 1) (W.heap.size + 1 + 1 + 1) b al f false (pre) W4 HA.out.2 a0 a1 a2 a3 (some ⟨bl, 0, none⟩) a5 HA.out.1 (hB.trans HK4.out.below) (Nat.le_trans hm hsz) hJ HJ4.out (by omega) hf0 (by omega)).mono ?_
    rintro e W5 h
    rcases h with ⟨rfl, hj5, hk5⟩ | ⟨rfl, q, hq, hx⟩
    · have hB5 : Below w0.heap.size w0 W5 := (hB.trans HK4.out.below).trans hk5.below
      have e0 := hk5.cell hm K0.out
      have e1 := hk5.cell (Nat.le_succ_of_le hm) K1.out
      have e2 := hk5.cell (Nat.le_succ_of_le (Nat.le_succ_of_le hm)) K2.out
      have e3 := hk5.cell (Nat.le_succ_of_le (Nat.le_succ_of_le (Nat.le_succ_of_le hm))) K3.out
      have e5 := hB5.cell (World.block_lt_of_cell? w0 _ B2.out) |>.trans B2.out
      have e6 := hB5.cell (World.block_lt_of_cell? w0 _ B3.out) |>.trans B3.out
      have e7 := hB5.cell (World.block_lt_of_cell? w0 _ BL.out) |>.trans BL.out
      have HK5 := Aside0.mk (HK4.out.trans hk5)
      have HJ5 := Aside0.mk hj5
      have hm5 : m ≤ W5.heap.size := by
        exact Nat.le_trans hm (Nat.le_of_lt (World.block_lt_of_cell? W5 ⟨W.heap.size, 0, none⟩ e0))
      have HB5 := Aside0.mk hB5
      clear hj5 hk5 hB5
      go_wp2_with fail
      refine (right_int w0 lp m N B J Jx W.heap.size (W.heap.size + 1) (W.heap.size + 1 + 1) (W.heap.size + 1 + 1 + 1) b al ar bl f false (pre ++ items_int f false al.list) W5 e5 e7 HC.out.2 e0 e1 e2 e3 r e6 HC.out.1 HB5.out hm5 hJ HJ5.out (by rw [List.length_append, items_len_int, Tr.list_len]; omega) hf0 (by omega)).mono ?_
      rintro e W6 h
      rcases h with ⟨rfl, hj6, hk6⟩ | ⟨rfl, q, hq, hx⟩
      · have H6 := Aside0.mk (show J (pre ++ items_int f false (Tr.fork al ar).list) W6 by rw [items_fork_int, ← List.append_assoc]; exact hj6)
        have HK6 := Aside0.mk (HK5.out.trans hk6)
        clear hj6 hk6
        go_wp2
        go_ret
        exact .inl ⟨rfl, H6.out, HK6.out⟩
      · have H6 := Aside0.mk (show ∃ q, q <+: items_int f false (Tr.fork al ar).list ∧ Jx (pre ++ q) W6 from ⟨items_int f false al.list ++ q, by rw [items_fork_int]; exact (List.prefix_append_right_inj _).2 hq, by rw [← List.append_assoc]; exact hx⟩)
        clear hq hx
        go_wp2
        go_ret
        exact .inr ⟨rfl, H6.out⟩
    · have H6 := Aside0.mk (show ∃ q, q <+: items_int f false (Tr.fork al ar).list ∧ Jx (pre ++ q) W5 from ⟨q, by rw [items_fork_int]; exact hq.trans (List.prefix_append _ _), hx⟩)
      clear hq hx
      go_wp2_with fail
      go_ret
      exact .inr ⟨rfl, H6.out⟩
  · go_wp2_with fail
    obtain ⟨W4, hW4⟩ : ∃ W4, ((((W.alloc (.cells #[.pointer (some ⟨b, 0, none⟩)] 24)).alloc (.cells #[.int .i64 f] 3)).alloc (.cells #[.bool true] 4)).alloc (.cells #[.func (.yield lp) #[] #[]] 44)) = W4 := ⟨_, rfl⟩
    rw [hW4] at K0 K1 K2 K3 HK4 HJ4 a5 a6 a7 a8 hsz ⊢
    clear hW4
    have a0 : W4.cell? ⟨W.heap.size, 0, none⟩ = some (.pointer (some ⟨b, 0, none⟩)) := (blk_cell K0.out 0).trans rfl
    have a1 : W4.cell? ⟨W.heap.size + 1, 0, none⟩ = some (.int .i64 f) := (blk_cell K1.out 0).trans rfl
    have a2 : W4.cell? ⟨W.heap.size + 1 + 1, 0, none⟩ = some (.bool true) := (blk_cell K2.out 0).trans rfl
    have a3 : W4.cell? ⟨W.heap.size + 1 + 1 + 1, 0, none⟩ = some (.func (.yield lp) #[] #[]) := (blk_cell K3.out 0).trans rfl
    refine (right_int w0 lp m N B J Jx W.heap.size (W.heap.size + 1) (W.heap.size + 1 + 1) (W.heap.size + 1 + 1 + 1) b al ar bl f true (pre) W4 a5 a7 HC.out.2 a0 a1 a2 a3 r a6 HC.out.1 (hB.trans HK4.out.below) (Nat.le_trans hm hsz) hJ HJ4.out (by omega) hf0 (by omega)).mono ?_
    rintro e W5 h
    rcases h with ⟨rfl, hj5, hk5⟩ | ⟨rfl, q, hq, hx⟩
    · have hB5 : Below w0.heap.size w0 W5 := (hB.trans HK4.out.below).trans hk5.below
      have e0 := hk5.cell hm K0.out
      have e1 := hk5.cell (Nat.le_succ_of_le hm) K1.out
      have e2 := hk5.cell (Nat.le_succ_of_le (Nat.le_succ_of_le hm)) K2.out
      have e3 := hk5.cell (Nat.le_succ_of_le (Nat.le_succ_of_le (Nat.le_succ_of_le hm))) K3.out
      have e5 := hB5.cell (World.block_lt_of_cell? w0 _ B2.out) |>.trans B2.out
      have e6 := hB5.cell (World.block_lt_of_cell? w0 _ B3.out) |>.trans B3.out
      have e7 := hB5.cell (World.block_lt_of_cell? w0 _ BL.out) |>.trans BL.out
      have HK5 := Aside0.mk (HK4.out.trans hk5)
      have HJ5 := Aside0.mk hj5
      have hm5 : m ≤ W5.heap.size := by
        exact Nat.le_trans hm (Nat.le_of_lt (World.block_lt_of_cell? W5 ⟨W.heap.size, 0, none⟩ e0))
      have HB5 := Aside0.mk hB5
      clear hj5 hk5 hB5
      go_wp2_with fail
      refine (left_int w0 lp m N B J Jx W.heap.size (W.heap.size + 1) (W.heap.size + 1 + 1) (W.heap.size + 1 + 1 + 1) b al f true (pre ++ items_int (f + al.len) true ar.list) W5 HA.out.2 e0 e1 e2 e3 (some ⟨bl, 0, none⟩) e5 HA.out.1 HB5.out hm5 hJ HJ5.out (by rw [List.length_append, items_len_int, Tr.list_len]; omega) hf0 (by omega)).mono ?_
      rintro e W6 h
      rcases h with ⟨rfl, hj6, hk6⟩ | ⟨rfl, q, hq, hx⟩
      · have H6 := Aside0.mk (show J (pre ++ items_int f true (Tr.fork al ar).list) W6 by rw [items_forkr_int, ← List.append_assoc]; exact hj6)
        have HK6 := Aside0.mk (HK5.out.trans hk6)
        clear hj6 hk6
        go_wp2
        go_ret
        exact .inl ⟨rfl, H6.out, HK6.out⟩
      · have H6 := Aside0.mk (show ∃ q, q <+: items_int f true (Tr.fork al ar).list ∧ Jx (pre ++ q) W6 from ⟨items_int (f + al.len) true ar.list ++ q, by rw [items_forkr_int]; exact (List.prefix_append_right_inj _).2 hq, by rw [← List.append_assoc]; exact hx⟩)
        clear hq hx
        go_wp2
        go_ret
        exact .inr ⟨rfl, H6.out⟩
    · have H6 := Aside0.mk (show ∃ q, q <+: items_int f true (Tr.fork al ar).list ∧ Jx (pre ++ q) W5 from ⟨q, by rw [items_forkr_int]; exact hq.trans (List.prefix_append _ _), hx⟩)
      clear hq hx
      go_wp2_with fail
      go_ret
      exact .inr ⟨rfl, H6.out⟩

end Go.Proofs.Ytlopceimlipemaa.Rope

namespace Go.Proofs.Ytlopceimlipemaa.Rope
open Go.RowKit Go.Proofs.YtlopceimlipemaaW.PrintWords Go.Proofs.YtlopceimlipemaaW.PrintLast Go.Proofs.YtlopceimlipemaaW.PrintMore Go.Shelf
set_option linter.unusedVariables false
set_option linter.unusedSimpArgs false
attribute [local go_sem] Oper.semAt_some
set_option maxRecDepth 100000 in
set_option maxHeartbeats 4000000 in
/-- The closure of the left tree. -/
theorem left_string (w0 : World) (lp m N B : Nat) (J Jx : List (Int × ByteArray) → World → Prop) (n1 n2 n3 n4 : Nat) (b : Nat) (al : Tr ByteArray) (f : Int) (back : Bool) (pre : List (Int × ByteArray)) (W : World)  (hw : Walks_string w0 lp m N J Jx al)
    (c0 : W.cell? ⟨n1, 0, none⟩ = some (.pointer (some ⟨b, 0, none⟩))) (c1 : W.cell? ⟨n2, 0, none⟩ = some (.int .i64 f)) (c2 : W.cell? ⟨n3, 0, none⟩ = some (.bool back)) (c3 : W.cell? ⟨n4, 0, none⟩ = some (.func (.yield lp) #[] #[]))
    (q : Option Addr) (hb : W.cell? ⟨b, 2, none⟩ = some (.pointer q)) (hq : IsN K_string w0 q al) (hB : Below w0.heap.size w0 W) (hm : m ≤ W.heap.size) (hJ : AbidesFrom B J) (hj : J pre W) (hN : pre.length + al.len ≤ N) (hf : 0 ≤ f) (hf1 : f + al.len ≤ 4611686018427387904) :
    Calls Try.prog 85 #[.pointer (some ⟨n1, 0, none⟩), .pointer (some ⟨n2, 0, none⟩), .pointer (some ⟨n3, 0, none⟩), .pointer (some ⟨n4, 0, none⟩)] W fun e W' =>
      (e = .returned (.bool true) ∧ J (pre ++ items_string (f) back al.list) W' ∧ KeepC w0.heap.size m W W') ∨
      (e = .returned (.bool false) ∧ ∃ q, q <+: items_string (f) back al.list ∧ Jx (pre ++ q) W') := by
  have hjd : J pre W.drew := hJ _ W W.drew none hj (grown_of_below (below_drew (Below.refl _ _)) none) (fun r e => by cases e)
  have hR := hw q (f) back pre W.drew hq (hB.trans ((below_drew (Below.refl _ _)).mono hB.size)) hm hjd hN (by omega) hf1
  have HKD := Aside0.mk (KeepC.ofBelow (m := m) (below_drew (Below.refl W.heap.size W)) hB.size)
  clear hw hjd hj hJ hq hB
  go_enter Try.func85, Try.ntmps85
  go_wp2
  go_still_tail 7, (by kernel_rfl)
  change wpList _ _ _ _ _ W.drew
  generalize W.drew = W1 at hR HKD ⊢
  go_wp2_with fail
  refine hR.mono ?_
  rintro e W2 h
  rcases h with ⟨rfl, h2⟩ | ⟨rfl, h2⟩
  · go_wp2
    go_ret
    exact .inl ⟨rfl, h2.1, HKD.out.trans h2.2⟩
  · go_wp2
    go_ret
    exact .inr ⟨rfl, h2⟩
set_option maxRecDepth 100000 in
set_option maxHeartbeats 4000000 in
/-- The closure of the right tree. -/
theorem right_string (w0 : World) (lp m N B : Nat) (J Jx : List (Int × ByteArray) → World → Prop) (n1 n2 n3 n4 : Nat) (b : Nat) (al ar : Tr ByteArray) (bl : Nat) (f : Int) (back : Bool) (pre : List (Int × ByteArray)) (W : World) (hbl : W.cell? ⟨b, 2, none⟩ = some (.pointer (some ⟨bl, 0, none⟩))) (hll : W.cell? ⟨bl, 0, none⟩ = some (.int .i64 (al.len : Int))) (hw : Walks_string w0 lp m N J Jx ar)
    (c0 : W.cell? ⟨n1, 0, none⟩ = some (.pointer (some ⟨b, 0, none⟩))) (c1 : W.cell? ⟨n2, 0, none⟩ = some (.int .i64 f)) (c2 : W.cell? ⟨n3, 0, none⟩ = some (.bool back)) (c3 : W.cell? ⟨n4, 0, none⟩ = some (.func (.yield lp) #[] #[]))
    (q : Option Addr) (hb : W.cell? ⟨b, 3, none⟩ = some (.pointer q)) (hq : IsN K_string w0 q ar) (hB : Below w0.heap.size w0 W) (hm : m ≤ W.heap.size) (hJ : AbidesFrom B J) (hj : J pre W) (hN : pre.length + ar.len ≤ N) (hf : 0 ≤ f) (hf1 : f + al.len + ar.len ≤ 4611686018427387904) :
    Calls Try.prog 86 #[.pointer (some ⟨n1, 0, none⟩), .pointer (some ⟨n2, 0, none⟩), .pointer (some ⟨n3, 0, none⟩), .pointer (some ⟨n4, 0, none⟩)] W fun e W' =>
      (e = .returned (.bool true) ∧ J (pre ++ items_string (f + al.len) back ar.list) W' ∧ KeepC w0.heap.size m W W') ∨
      (e = .returned (.bool false) ∧ ∃ q, q <+: items_string (f + al.len) back ar.list ∧ Jx (pre ++ q) W') := by
  have hjd : J pre W.drew := hJ _ W W.drew none hj (grown_of_below (below_drew (Below.refl _ _)) none) (fun r e => by cases e)
  have hR := hw q (f + al.len) back pre W.drew hq (hB.trans ((below_drew (Below.refl _ _)).mono hB.size)) hm hjd hN (by omega) hf1
  have HKD := Aside0.mk (KeepC.ofBelow (m := m) (below_drew (Below.refl W.heap.size W)) hB.size)
  have hwr : IntKind.i64.wrap (f + (al.len : Int)) = f + (al.len : Int) := IntWalk.i64_in _ (by omega)
  clear hw hjd hj hJ hq hB
  go_enter Try.func86, Try.ntmps86
  go_wp2
  go_still_tail 15, (by kernel_rfl)
  change wpList _ _ _ _ _ W.drew
  generalize W.drew = W1 at hR HKD ⊢
  go_wp2_with fail
  refine hR.mono ?_
  rintro e W2 h
  rcases h with ⟨rfl, h2⟩ | ⟨rfl, h2⟩
  · go_wp2
    go_ret
    exact .inl ⟨rfl, h2.1, HKD.out.trans h2.2⟩
  · go_wp2
    go_ret
    exact .inr ⟨rfl, h2⟩
set_option maxRecDepth 100000 in
set_option maxHeartbeats 4000000 in
/-- A fork's walk. -/
theorem forkwalk_string (w0 : World) (lp m N B : Nat) (J Jx : List (Int × ByteArray) → World → Prop) (hJ : AbidesFrom B J) (al ar : Tr ByteArray) (hal : Walks_string w0 lp m N J Jx al) (har : Walks_string w0 lp m N J Jx ar) : Walks_string w0 lp m N J Jx (.fork al ar) := by
  intro p f back pre W hC hB hm hj hN hf0 hf1
  have hlen : (Tr.fork al ar).len = al.len + ar.len := rfl
  obtain ⟨b, l, r, rfl, b0, b1, b2, b3, ha, hc⟩ := hC.node
  obtain ⟨bl, _, _, rfl, bl0, _⟩ := ha.node
  obtain ⟨k0, k1, k2, k3, hb4⟩ := alloc4 W (.cells #[.pointer (some ⟨b, 0, none⟩)] 72) (.cells #[.int .i64 f] 3) (.cells #[.bool back] 4) (.cells #[.func (.yield lp) #[] #[]] 117)
  have HK4 := Aside0.mk (KeepC.ofBelow (m := m) hb4 hB.size)
  have HJ4 := Aside0.mk (hJ _ W _ none hj ((((World.grownBy_alloc W _ none).trans (World.grownBy_alloc _ _ none)).trans (World.grownBy_alloc _ _ none)).trans (World.grownBy_alloc _ _ none)) (fun r e => by cases e) : J pre ((((W.alloc (.cells #[.pointer (some ⟨b, 0, none⟩)] 72)).alloc (.cells #[.int .i64 f] 3)).alloc (.cells #[.bool back] 4)).alloc (.cells #[.func (.yield lp) #[] #[]] 117)))
  have hsz := hb4.size
  have hp := Tr.ht_pos al
  have hht : (Tr.fork al ar).ht = max al.ht ar.ht + 1 := rfl
  have hd1 : (((Tr.fork al ar).ht : Int) == 1) = false := by simp only [beq_eq_false_iff_ne, ne_eq, hht]; omega
  have HA := Aside0.mk (And.intro ha hal)
  have HC := Aside0.mk (And.intro hc har)
  have a5 := (hB.trans HK4.out.below).cell (World.block_lt_of_cell? w0 _ b2) |>.trans b2
  have a6 := (hB.trans HK4.out.below).cell (World.block_lt_of_cell? w0 _ b3) |>.trans b3
  have a7 := (hB.trans HK4.out.below).cell (World.block_lt_of_cell? w0 _ bl0) |>.trans bl0
  have a8 := (hB.trans HK4.out.below).cell (World.block_lt_of_cell? w0 _ b1) |>.trans b1
  have K0 := Aside0.mk k0
  have K1 := Aside0.mk k1
  have K2 := Aside0.mk k2
  have K3 := Aside0.mk k3
  have B2 := Aside0.mk b2
  have B3 := Aside0.mk b3
  have BL := Aside0.mk bl0
  clear k0 k1 k2 k3 ha hc hal har b0 b1 b2 b3 bl0 hC hht hb4 hj
  go_enter Try.func81, Try.ntmps81
  cases back
  · go_wp2_with fail
    obtain ⟨W4, hW4⟩ : ∃ W4, ((((W.alloc (.cells #[.pointer (some ⟨b, 0, none⟩)] 72)).alloc (.cells #[.int .i64 f] 3)).alloc (.cells #[.bool false] 4)).alloc (.cells #[.func (.yield lp) #[] #[]] 117)) = W4 := ⟨_, rfl⟩
    rw [hW4] at K0 K1 K2 K3 HK4 HJ4 a5 a6 a7 a8 hsz ⊢
    clear hW4
    have a0 : W4.cell? ⟨W.heap.size, 0, none⟩ = some (.pointer (some ⟨b, 0, none⟩)) := (blk_cell K0.out 0).trans rfl
    have a1 : W4.cell? ⟨W.heap.size + 1, 0, none⟩ = some (.int .i64 f) := (blk_cell K1.out 0).trans rfl
    have a2 : W4.cell? ⟨W.heap.size + 1 + 1, 0, none⟩ = some (.bool false) := (blk_cell K2.out 0).trans rfl
    have a3 : W4.cell? ⟨W.heap.size + 1 + 1 + 1, 0, none⟩ = some (.func (.yield lp) #[] #[]) := (blk_cell K3.out 0).trans rfl
    refine (left_string w0 lp m N B J Jx W.heap.size (W.heap.size + 1) (W.heap.size + 1 + 1) (W.heap.size + 1 + 1 + 1) b al f false (pre) W4 HA.out.2 a0 a1 a2 a3 (some ⟨bl, 0, none⟩) a5 HA.out.1 (hB.trans HK4.out.below) (Nat.le_trans hm hsz) hJ HJ4.out (by omega) hf0 (by omega)).mono ?_
    rintro e W5 h
    rcases h with ⟨rfl, hj5, hk5⟩ | ⟨rfl, q, hq, hx⟩
    · have hB5 : Below w0.heap.size w0 W5 := (hB.trans HK4.out.below).trans hk5.below
      have e0 := hk5.cell hm K0.out
      have e1 := hk5.cell (Nat.le_succ_of_le hm) K1.out
      have e2 := hk5.cell (Nat.le_succ_of_le (Nat.le_succ_of_le hm)) K2.out
      have e3 := hk5.cell (Nat.le_succ_of_le (Nat.le_succ_of_le (Nat.le_succ_of_le hm))) K3.out
      have e5 := hB5.cell (World.block_lt_of_cell? w0 _ B2.out) |>.trans B2.out
      have e6 := hB5.cell (World.block_lt_of_cell? w0 _ B3.out) |>.trans B3.out
      have e7 := hB5.cell (World.block_lt_of_cell? w0 _ BL.out) |>.trans BL.out
      have HK5 := Aside0.mk (HK4.out.trans hk5)
      have HJ5 := Aside0.mk hj5
      have hm5 : m ≤ W5.heap.size := by
        exact Nat.le_trans hm (Nat.le_of_lt (World.block_lt_of_cell? W5 ⟨W.heap.size, 0, none⟩ e0))
      have HB5 := Aside0.mk hB5
      clear hj5 hk5 hB5
      go_wp2_with fail
      refine (right_string w0 lp m N B J Jx W.heap.size (W.heap.size + 1) (W.heap.size + 1 + 1) (W.heap.size + 1 + 1 + 1) b al ar bl f false (pre ++ items_string f false al.list) W5 e5 e7 HC.out.2 e0 e1 e2 e3 r e6 HC.out.1 HB5.out hm5 hJ HJ5.out (by rw [List.length_append, items_len_string, Tr.list_len]; omega) hf0 (by omega)).mono ?_
      rintro e W6 h
      rcases h with ⟨rfl, hj6, hk6⟩ | ⟨rfl, q, hq, hx⟩
      · have H6 := Aside0.mk (show J (pre ++ items_string f false (Tr.fork al ar).list) W6 by rw [items_fork_string, ← List.append_assoc]; exact hj6)
        have HK6 := Aside0.mk (HK5.out.trans hk6)
        clear hj6 hk6
        go_wp2
        go_ret
        exact .inl ⟨rfl, H6.out, HK6.out⟩
      · have H6 := Aside0.mk (show ∃ q, q <+: items_string f false (Tr.fork al ar).list ∧ Jx (pre ++ q) W6 from ⟨items_string f false al.list ++ q, by rw [items_fork_string]; exact (List.prefix_append_right_inj _).2 hq, by rw [← List.append_assoc]; exact hx⟩)
        clear hq hx
        go_wp2
        go_ret
        exact .inr ⟨rfl, H6.out⟩
    · have H6 := Aside0.mk (show ∃ q, q <+: items_string f false (Tr.fork al ar).list ∧ Jx (pre ++ q) W5 from ⟨q, by rw [items_fork_string]; exact hq.trans (List.prefix_append _ _), hx⟩)
      clear hq hx
      go_wp2_with fail
      go_ret
      exact .inr ⟨rfl, H6.out⟩
  · go_wp2_with fail
    obtain ⟨W4, hW4⟩ : ∃ W4, ((((W.alloc (.cells #[.pointer (some ⟨b, 0, none⟩)] 72)).alloc (.cells #[.int .i64 f] 3)).alloc (.cells #[.bool true] 4)).alloc (.cells #[.func (.yield lp) #[] #[]] 117)) = W4 := ⟨_, rfl⟩
    rw [hW4] at K0 K1 K2 K3 HK4 HJ4 a5 a6 a7 a8 hsz ⊢
    clear hW4
    have a0 : W4.cell? ⟨W.heap.size, 0, none⟩ = some (.pointer (some ⟨b, 0, none⟩)) := (blk_cell K0.out 0).trans rfl
    have a1 : W4.cell? ⟨W.heap.size + 1, 0, none⟩ = some (.int .i64 f) := (blk_cell K1.out 0).trans rfl
    have a2 : W4.cell? ⟨W.heap.size + 1 + 1, 0, none⟩ = some (.bool true) := (blk_cell K2.out 0).trans rfl
    have a3 : W4.cell? ⟨W.heap.size + 1 + 1 + 1, 0, none⟩ = some (.func (.yield lp) #[] #[]) := (blk_cell K3.out 0).trans rfl
    refine (right_string w0 lp m N B J Jx W.heap.size (W.heap.size + 1) (W.heap.size + 1 + 1) (W.heap.size + 1 + 1 + 1) b al ar bl f true (pre) W4 a5 a7 HC.out.2 a0 a1 a2 a3 r a6 HC.out.1 (hB.trans HK4.out.below) (Nat.le_trans hm hsz) hJ HJ4.out (by omega) hf0 (by omega)).mono ?_
    rintro e W5 h
    rcases h with ⟨rfl, hj5, hk5⟩ | ⟨rfl, q, hq, hx⟩
    · have hB5 : Below w0.heap.size w0 W5 := (hB.trans HK4.out.below).trans hk5.below
      have e0 := hk5.cell hm K0.out
      have e1 := hk5.cell (Nat.le_succ_of_le hm) K1.out
      have e2 := hk5.cell (Nat.le_succ_of_le (Nat.le_succ_of_le hm)) K2.out
      have e3 := hk5.cell (Nat.le_succ_of_le (Nat.le_succ_of_le (Nat.le_succ_of_le hm))) K3.out
      have e5 := hB5.cell (World.block_lt_of_cell? w0 _ B2.out) |>.trans B2.out
      have e6 := hB5.cell (World.block_lt_of_cell? w0 _ B3.out) |>.trans B3.out
      have e7 := hB5.cell (World.block_lt_of_cell? w0 _ BL.out) |>.trans BL.out
      have HK5 := Aside0.mk (HK4.out.trans hk5)
      have HJ5 := Aside0.mk hj5
      have hm5 : m ≤ W5.heap.size := by
        exact Nat.le_trans hm (Nat.le_of_lt (World.block_lt_of_cell? W5 ⟨W.heap.size, 0, none⟩ e0))
      have HB5 := Aside0.mk hB5
      clear hj5 hk5 hB5
      go_wp2_with fail
      refine (left_string w0 lp m N B J Jx W.heap.size (W.heap.size + 1) (W.heap.size + 1 + 1) (W.heap.size + 1 + 1 + 1) b al f true (pre ++ items_string (f + al.len) true ar.list) W5 HA.out.2 e0 e1 e2 e3 (some ⟨bl, 0, none⟩) e5 HA.out.1 HB5.out hm5 hJ HJ5.out (by rw [List.length_append, items_len_string, Tr.list_len]; omega) hf0 (by omega)).mono ?_
      rintro e W6 h
      rcases h with ⟨rfl, hj6, hk6⟩ | ⟨rfl, q, hq, hx⟩
      · have H6 := Aside0.mk (show J (pre ++ items_string f true (Tr.fork al ar).list) W6 by rw [items_forkr_string, ← List.append_assoc]; exact hj6)
        have HK6 := Aside0.mk (HK5.out.trans hk6)
        clear hj6 hk6
        go_wp2
        go_ret
        exact .inl ⟨rfl, H6.out, HK6.out⟩
      · have H6 := Aside0.mk (show ∃ q, q <+: items_string f true (Tr.fork al ar).list ∧ Jx (pre ++ q) W6 from ⟨items_string (f + al.len) true ar.list ++ q, by rw [items_forkr_string]; exact (List.prefix_append_right_inj _).2 hq, by rw [← List.append_assoc]; exact hx⟩)
        clear hq hx
        go_wp2
        go_ret
        exact .inr ⟨rfl, H6.out⟩
    · have H6 := Aside0.mk (show ∃ q, q <+: items_string f true (Tr.fork al ar).list ∧ Jx (pre ++ q) W5 from ⟨q, by rw [items_forkr_string]; exact hq.trans (List.prefix_append _ _), hx⟩)
      clear hq hx
      go_wp2_with fail
      go_ret
      exact .inr ⟨rfl, H6.out⟩

end Go.Proofs.Ytlopceimlipemaa.Rope
