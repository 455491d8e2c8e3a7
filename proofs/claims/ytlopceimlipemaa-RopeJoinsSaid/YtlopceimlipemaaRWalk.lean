import Derived.Test.YtlopceimlipemaaRItems
import Derived.Stop.RegionWithIn
namespace Go.Proofs.Ytlopceimlipemaa.Rope
open Go.RowKit Go.Proofs.YtlopceimlipemaaW.PrintWords Go.Proofs.YtlopceimlipemaaW.PrintLast Go.Proofs.YtlopceimlipemaaW.PrintMore Go.Shelf
set_option linter.unusedVariables false
set_option linter.unusedSimpArgs false
attribute [local go_sem] Oper.semAt_some

set_option maxRecDepth 100000 in
set_option maxHeartbeats 4000000 in
/-- A leaf's walk. -/
theorem leafwalk_int (w0 : World) (lp m N : Nat) (J Jx : List (Int × Int) → World → Prop) (n : Nat) (B : Nat) (hJ : AbidesFrom B J)
    (hY : ∀ pre y W, J pre W → pre.length < N → YieldAt Fence.wide n Try.prog lp (enc2_int y) W fun e W' =>
      (e = .returned (.bool true) ∧ J (pre ++ [y]) W' ∧ KeepC w0.heap.size m W W') ∨ (e = .returned (.bool false) ∧ Jx (pre ++ [y]) W'))
    (p : Option Addr) (xs : List Int) (f : Int) (back : Bool) (pre : List (Int × Int)) (W : World) (hC : IsN K_int w0 p (.leaf xs)) (hB : Below w0.heap.size w0 W) (hm : m ≤ W.heap.size) (hj : J pre W) (hN : pre.length + xs.length ≤ N)
    (hf0 : 0 ≤ f) (hf1 : f ≤ 4611686018427387904) :
    CallsIn Fence.wide n Try.prog 50 #[.pointer p, .int .i64 f, .bool back, .func (.yield lp) #[] #[]] W fun e W' =>
      (e = .returned (.bool true) ∧ J (pre ++ items_int f back xs) W' ∧ KeepC w0.heap.size m W W') ∨
      (e = .returned (.bool false) ∧ ∃ q, q <+: items_int f back xs ∧ Jx (pre ++ q) W') := by
  obtain ⟨b, rfl, x1, x16, h3⟩ := hC
  obtain ⟨k0, k1, k2, k3, hb4⟩ := alloc4 W (.cells #[.pointer (some ⟨b, 0, none⟩)] 24) (.cells #[.int .i64 f] 3) (.cells #[.bool back] 4) (.cells #[.func (.yield lp) #[] #[]] 44)
  have hk4 : KeepC w0.heap.size m W ((((W.alloc (.cells #[.pointer (some ⟨b, 0, none⟩)] 24)).alloc (.cells #[.int .i64 f] 3)).alloc (.cells #[.bool back] 4)).alloc (.cells #[.func (.yield lp) #[] #[]] 44)) := KeepC.ofBelow hb4 hB.size
  have hj4 : J pre ((((W.alloc (.cells #[.pointer (some ⟨b, 0, none⟩)] 24)).alloc (.cells #[.int .i64 f] 3)).alloc (.cells #[.bool back] 4)).alloc (.cells #[.func (.yield lp) #[] #[]] 44)) :=
    hJ _ W _ none hj ((((World.grownBy_alloc W _ none).trans (World.grownBy_alloc _ _ none)).trans (World.grownBy_alloc _ _ none)).trans (World.grownBy_alloc _ _ none)) (fun r e => by cases e)
  refine callsIn_of_wp Try.func50 rfl trivial ?_ rfl
  simp only [Try.ntmps50, List.size_toArray, List.length_cons, List.length_nil, Nat.reduceAdd, Nat.reduceSub, Array.replicate_succ, Array.replicate_zero, List.push_toArray, List.append_toArray, List.nil_append, List.cons_append]
  have a1 : W.cell? ⟨b, 1, none⟩ = some (.int .i64 1) := (hB.cell (World.block_lt_of_cell? w0 _ ((blk_cell h3 1).trans rfl))).trans ((blk_cell h3 1).trans rfl)
  have a0 : W.cell? ⟨b, 0, none⟩ = some (.int .i64 (xs.length : Int)) := (hB.cell (World.block_lt_of_cell? w0 _ ((blk_cell h3 0).trans rfl))).trans ((blk_cell h3 0).trans rfl)
  replace a0 := pw_cell_below hb4 a0
  replace a1 := pw_cell_below hb4 a1
  have K0 := Aside0.mk k0
  have K1 := Aside0.mk k1
  have K2 := Aside0.mk k2
  have K3 := Aside0.mk k3
  have HK4 := Aside0.mk hk4
  have HJ4 := Aside0.mk hj4
  have HB4 := Aside0.mk hb4
  clear k0 k1 k2 k3 hk4 hj4 hb4
  gi_wp2
  obtain ⟨W4, hW4⟩ : ∃ W4, (((W.alloc (.cells #[.pointer (some ⟨b, 0, none⟩)] 24)).alloc (.cells #[.int .i64 f] 3)).alloc (.cells #[.bool back] 4)).alloc (.cells #[.func (.yield lp) #[] #[]] 44) = W4 := ⟨_, rfl⟩
  rw [hW4] at K0 K1 K2 K3 HK4 HJ4 HB4 a0 a1 ⊢
  clear hW4
  gi_loopw [23] (fun i wr => ∃ q : Nat, i = .int .i64 q ∧ q ≤ xs.length ∧ Aside0 (J (pre ++ (items_int f back xs).take q) wr) ∧ Aside0 (KeepC w0.heap.size m W4 wr)) (fun i wr => xs.length - (intOf i).toNat)
  case atStart => exact ⟨0, rfl, Nat.zero_le _, by simpa using HJ4, ⟨KeepC.refl _ _ _⟩⟩
  case round =>
    obtain ⟨q, rfl, hq, HJ, HK⟩ := hrel
    have hbr : Below w0.heap.size w0 wr := (hB.trans HK4.out.below).trans HK.out.below
    have b0 : wr.cell? ⟨b, 0, none⟩ = some (.int .i64 (xs.length : Int)) := (hbr.cell (World.block_lt_of_cell? w0 _ ((blk_cell h3 0).trans rfl))).trans ((blk_cell h3 0).trans rfl)
    have y0 := HK.out.cell hm K0.out
    have y1 := HK.out.cell (Nat.le_succ_of_le hm) K1.out
    have y2 := HK.out.cell (Nat.le_succ_of_le (Nat.le_succ_of_le hm)) K2.out
    have y3 := HK.out.cell (Nat.le_succ_of_le (Nat.le_succ_of_le (Nat.le_succ_of_le hm))) K3.out
    by_cases hlt : q < xs.length
    · have hlb : decide ((q : Int) < (xs.length : Int)) = true := by simp; omega
      cases back with
      | false =>
        have hjd : J (pre ++ (items_int f false xs).take q) wr.drew := hJ _ wr wr.drew none HJ.out (grown_of_below (below_drew (Below.refl _ _)) none) (fun r e => by cases e)
        have hjl : q < xs.length := hlt
        have hnext : (items_int f false xs).take (q + 1) = (items_int f false xs).take q ++ [(f + (q : Int), xs[q])] := by
          rw [List.take_succ_eq_append_getElem (by rw [items_len_int]; exact hlt), items_fwd_int f xs q hlt]
        obtain ⟨fn, tmps, assign, body, hy, hR⟩ := hY (pre ++ (items_int f false xs).take q) (f + (q : Int), xs[q]) wr.drew hjd (by rw [List.length_append, List.length_take, items_len_int]; omega)
        have hit : wr.cell? ⟨b, 4 + q, none⟩ = some (((.int .i64 : Int → Value)) xs[q]) := by
          obtain ⟨_, he, hc⟩ := IsN.item_int (show IsN K_int w0 (some ⟨b, 0, none⟩) (.leaf xs) from ⟨b, rfl, x1, x16, h3⟩) q hjl
          cases he
          exact (hbr.cell (World.block_lt_of_cell? w0 _ hc)).trans hc
        have hq16 : (q : Int) < 16 := by omega
        have hq0 : (0 : Int) ≤ (q : Int) := Int.natCast_nonneg _
        have hw : IntKind.i64.wrap (f + (q : Int)) = f + (q : Int) := IntWalk.i64_in _ (by omega)
        obtain ⟨x, hx⟩ : ∃ x, xs[q] = x := ⟨_, rfl⟩
        rw [hx] at hit hy hR hnext
        dsimp only [enc2_int] at hy
        have hR2 := hR.mono (R' := fun e W' => ∃ bb : Bool, e = .returned (.bool bb) ∧ Aside0 ((bb = true ∧ J (pre ++ (items_int f false xs).take q ++ [(f + (q : Int), x)]) W' ∧ KeepC w0.heap.size m wr.drew W') ∨ (bb = false ∧ Jx (pre ++ (items_int f false xs).take q ++ [(f + (q : Int), x)]) W'))) (fun e W' h => by
          rcases h with ⟨he, h⟩ | ⟨he, h⟩
          · exact ⟨true, he, ⟨.inl ⟨rfl, h⟩⟩⟩
          · exact ⟨false, he, ⟨.inr ⟨rfl, h⟩⟩⟩)
        have HNX := Aside0.mk hnext
        have hdd : ∀ k : Nat, (Fence.wide.depth.isSome = true → 1 ≤ k) := fun k h => by simp [Fence.wide] at h
        clear hnext hx hY hJ hR hjd hj HJ4 K0 K1 K2 K3
        gi_wp2
        refine region_cut (β := Bool) (fun bb W' => Aside0 ((bb = true ∧ J (pre ++ (items_int f false xs).take q ++ [(f + (q : Int), x)]) W' ∧ KeepC w0.heap.size m wr.drew W') ∨ (bb = false ∧ Jx (pre ++ (items_int f false xs).take q ++ [(f + (q : Int), x)]) W'))) ?a' ?h1 ?h2
        case h1 =>
          gi_region_with ((try refine ⟨hdd _, ?_⟩); refine (round_any hR2).mono ?_; rintro e W2 ⟨bb, rfl, hbb⟩)
          all_goals (refine ⟨bb, ?_, hbb⟩; first | (simp only [Act.put, List.setIfInBounds_toArray, List.set_cons_zero, List.set_cons_succ, i64_w, i32_w]; done) | (simp only [Act.put, List.setIfInBounds_toArray, List.set_cons_zero, List.set_cons_succ, i64_w, i32_w]; rfl))
        case h2 =>
          intro bb W2 hbb
          cases bb with
          | true =>
            obtain ⟨_, hJ2, hK2⟩ : True ∧ _ := by rcases hbb.out with ⟨_, h⟩ | ⟨h, _⟩; exact ⟨trivial, h⟩; cases h
            have HJ2 := Aside0.mk hJ2
            have HK2 := Aside0.mk (HK.out.trans ((KeepC.ofBelow (below_drew (Below.refl _ _)) hbr.size).trans hK2))
            clear hJ2 hK2 hbb
            gi_wp2
            go_roundw
            case rel => exact ⟨q + 1, by go_num, by omega, ⟨by rw [HNX.out, ← List.append_assoc]; exact HJ2.out⟩, HK2⟩
            case measure => simp [intOf]; omega
          | false =>
            have HJ2 := Aside0.mk (show Jx _ _ by rcases hbb.out with ⟨h, _⟩ | ⟨_, h⟩; cases h; exact h)
            clear hbb
            gi_wp2
            go_ret
            refine .inr ⟨rfl, _, ?_, by rw [List.append_assoc] at HJ2; exact HJ2.out⟩
            rw [← HNX.out]
            exact List.take_prefix _ _
      | true =>
        have hjd : J (pre ++ (items_int f true xs).take q) wr.drew := hJ _ wr wr.drew none HJ.out (grown_of_below (below_drew (Below.refl _ _)) none) (fun r e => by cases e)
        obtain ⟨j, hj_⟩ : ∃ j, j = xs.length - 1 - q := ⟨_, rfl⟩
        have hjl : j < xs.length := by omega
        have hkk : Aside0 ((xs.length : Int) - 1 - (q : Int) = (j : Int)) := ⟨by omega⟩
        have hnext : (items_int f true xs).take (q + 1) = (items_int f true xs).take q ++ [(f + (j : Int), xs[j])] := by
          rw [List.take_succ_eq_append_getElem (by rw [items_len_int]; exact hlt), items_rev_int f xs q j hlt hj_ hjl]
        obtain ⟨fn, tmps, assign, body, hy, hR⟩ := hY (pre ++ (items_int f true xs).take q) (f + (j : Int), xs[j]) wr.drew hjd (by rw [List.length_append, List.length_take, items_len_int]; omega)
        have hit : wr.cell? ⟨b, 4 + j, none⟩ = some (((.int .i64 : Int → Value)) xs[j]) := by
          obtain ⟨_, he, hc⟩ := IsN.item_int (show IsN K_int w0 (some ⟨b, 0, none⟩) (.leaf xs) from ⟨b, rfl, x1, x16, h3⟩) j hjl
          cases he
          exact (hbr.cell (World.block_lt_of_cell? w0 _ hc)).trans hc
        have hq16 : (j : Int) < 16 := by omega
        have hq0 : (0 : Int) ≤ (j : Int) := Int.natCast_nonneg _
        have hw : IntKind.i64.wrap (f + (j : Int)) = f + (j : Int) := IntWalk.i64_in _ (by omega)
        obtain ⟨x, hx⟩ : ∃ x, xs[j] = x := ⟨_, rfl⟩
        rw [hx] at hit hy hR hnext
        dsimp only [enc2_int] at hy
        have hR2 := hR.mono (R' := fun e W' => ∃ bb : Bool, e = .returned (.bool bb) ∧ Aside0 ((bb = true ∧ J (pre ++ (items_int f true xs).take q ++ [(f + (j : Int), x)]) W' ∧ KeepC w0.heap.size m wr.drew W') ∨ (bb = false ∧ Jx (pre ++ (items_int f true xs).take q ++ [(f + (j : Int), x)]) W'))) (fun e W' h => by
          rcases h with ⟨he, h⟩ | ⟨he, h⟩
          · exact ⟨true, he, ⟨.inl ⟨rfl, h⟩⟩⟩
          · exact ⟨false, he, ⟨.inr ⟨rfl, h⟩⟩⟩)
        have HNX := Aside0.mk hnext
        have hdd : ∀ k : Nat, (Fence.wide.depth.isSome = true → 1 ≤ k) := fun k h => by simp [Fence.wide] at h
        clear hnext hx hY hJ hR hjd hj HJ4 hj_ K0 K1 K2 K3
        gi_wp2
        rw [hkk.out]
        refine region_cut (β := Bool) (fun bb W' => Aside0 ((bb = true ∧ J (pre ++ (items_int f true xs).take q ++ [(f + (j : Int), x)]) W' ∧ KeepC w0.heap.size m wr.drew W') ∨ (bb = false ∧ Jx (pre ++ (items_int f true xs).take q ++ [(f + (j : Int), x)]) W'))) ?a2 ?g1 ?g2
        case g1 =>
          gi_region_with ((try refine ⟨hdd _, ?_⟩); refine (round_any hR2).mono ?_; rintro e W2 ⟨bb, rfl, hbb⟩)
          all_goals (refine ⟨bb, ?_, hbb⟩; first | (simp only [Act.put, List.setIfInBounds_toArray, List.set_cons_zero, List.set_cons_succ, i64_w, i32_w]; done) | (simp only [Act.put, List.setIfInBounds_toArray, List.set_cons_zero, List.set_cons_succ, i64_w, i32_w]; rfl))
        case g2 =>
          intro bb W2 hbb
          cases bb with
          | true =>
            obtain ⟨_, hJ2, hK2⟩ : True ∧ _ := by rcases hbb.out with ⟨_, h⟩ | ⟨h, _⟩; exact ⟨trivial, h⟩; cases h
            have HJ2 := Aside0.mk hJ2
            have HK2 := Aside0.mk (HK.out.trans ((KeepC.ofBelow (below_drew (Below.refl _ _)) hbr.size).trans hK2))
            clear hJ2 hK2 hbb
            gi_wp2
            go_roundw
            case rel => exact ⟨q + 1, by go_num, by omega, ⟨by rw [HNX.out, ← List.append_assoc]; exact HJ2.out⟩, HK2⟩
            case measure => simp [intOf]; omega
          | false =>
            have HJ2 := Aside0.mk (show Jx _ _ by rcases hbb.out with ⟨h, _⟩ | ⟨_, h⟩; cases h; exact h)
            clear hbb
            gi_wp2
            go_ret
            refine .inr ⟨rfl, _, ?_, by rw [List.append_assoc] at HJ2; exact HJ2.out⟩
            rw [← HNX.out]
            exact List.take_prefix _ _
    · obtain rfl : q = xs.length := by omega
      have hlb : decide ((xs.length : Int) < (xs.length : Int)) = false := by simp
      have hlb2 : decide (xs.length < xs.length) = false := by simp
      have HJ2 := Aside0.mk (show J (pre ++ items_int f back xs) wr by have := HJ.out; rwa [List.take_of_length_le (by rw [items_len_int]; exact Nat.le_refl _)] at this)
      have HK2 := Aside0.mk (HK4.out.trans HK.out)
      clear hY hJ HJ
      gi_wp2
      go_ret
      exact .inl ⟨rfl, HJ2.out, HK2.out⟩

end Go.Proofs.Ytlopceimlipemaa.Rope

namespace Go.Proofs.Ytlopceimlipemaa.Rope
open Go.RowKit Go.Proofs.YtlopceimlipemaaW.PrintWords Go.Proofs.YtlopceimlipemaaW.PrintLast Go.Proofs.YtlopceimlipemaaW.PrintMore Go.Shelf
set_option linter.unusedVariables false
set_option linter.unusedSimpArgs false
attribute [local go_sem] Oper.semAt_some

set_option maxRecDepth 100000 in
set_option maxHeartbeats 4000000 in
/-- A leaf's walk. -/
theorem leafwalk_string (w0 : World) (lp m N : Nat) (J Jx : List (Int × ByteArray) → World → Prop) (n : Nat) (B : Nat) (hJ : AbidesFrom B J)
    (hY : ∀ pre y W, J pre W → pre.length < N → YieldAt Fence.wide n Try.prog lp (enc2_string y) W fun e W' =>
      (e = .returned (.bool true) ∧ J (pre ++ [y]) W' ∧ KeepC w0.heap.size m W W') ∨ (e = .returned (.bool false) ∧ Jx (pre ++ [y]) W'))
    (p : Option Addr) (xs : List ByteArray) (f : Int) (back : Bool) (pre : List (Int × ByteArray)) (W : World) (hC : IsN K_string w0 p (.leaf xs)) (hB : Below w0.heap.size w0 W) (hm : m ≤ W.heap.size) (hj : J pre W) (hN : pre.length + xs.length ≤ N)
    (hf0 : 0 ≤ f) (hf1 : f ≤ 4611686018427387904) :
    CallsIn Fence.wide n Try.prog 81 #[.pointer p, .int .i64 f, .bool back, .func (.yield lp) #[] #[]] W fun e W' =>
      (e = .returned (.bool true) ∧ J (pre ++ items_string f back xs) W' ∧ KeepC w0.heap.size m W W') ∨
      (e = .returned (.bool false) ∧ ∃ q, q <+: items_string f back xs ∧ Jx (pre ++ q) W') := by
  obtain ⟨b, rfl, x1, x16, h3⟩ := hC
  obtain ⟨k0, k1, k2, k3, hb4⟩ := alloc4 W (.cells #[.pointer (some ⟨b, 0, none⟩)] 72) (.cells #[.int .i64 f] 3) (.cells #[.bool back] 4) (.cells #[.func (.yield lp) #[] #[]] 117)
  have hk4 : KeepC w0.heap.size m W ((((W.alloc (.cells #[.pointer (some ⟨b, 0, none⟩)] 72)).alloc (.cells #[.int .i64 f] 3)).alloc (.cells #[.bool back] 4)).alloc (.cells #[.func (.yield lp) #[] #[]] 117)) := KeepC.ofBelow hb4 hB.size
  have hj4 : J pre ((((W.alloc (.cells #[.pointer (some ⟨b, 0, none⟩)] 72)).alloc (.cells #[.int .i64 f] 3)).alloc (.cells #[.bool back] 4)).alloc (.cells #[.func (.yield lp) #[] #[]] 117)) :=
    hJ _ W _ none hj ((((World.grownBy_alloc W _ none).trans (World.grownBy_alloc _ _ none)).trans (World.grownBy_alloc _ _ none)).trans (World.grownBy_alloc _ _ none)) (fun r e => by cases e)
  refine callsIn_of_wp Try.func81 rfl trivial ?_ rfl
  simp only [Try.ntmps81, List.size_toArray, List.length_cons, List.length_nil, Nat.reduceAdd, Nat.reduceSub, Array.replicate_succ, Array.replicate_zero, List.push_toArray, List.append_toArray, List.nil_append, List.cons_append]
  have a1 : W.cell? ⟨b, 1, none⟩ = some (.int .i64 1) := (hB.cell (World.block_lt_of_cell? w0 _ ((blk_cell h3 1).trans rfl))).trans ((blk_cell h3 1).trans rfl)
  have a0 : W.cell? ⟨b, 0, none⟩ = some (.int .i64 (xs.length : Int)) := (hB.cell (World.block_lt_of_cell? w0 _ ((blk_cell h3 0).trans rfl))).trans ((blk_cell h3 0).trans rfl)
  replace a0 := pw_cell_below hb4 a0
  replace a1 := pw_cell_below hb4 a1
  have K0 := Aside0.mk k0
  have K1 := Aside0.mk k1
  have K2 := Aside0.mk k2
  have K3 := Aside0.mk k3
  have HK4 := Aside0.mk hk4
  have HJ4 := Aside0.mk hj4
  have HB4 := Aside0.mk hb4
  clear k0 k1 k2 k3 hk4 hj4 hb4
  gi_wp2
  obtain ⟨W4, hW4⟩ : ∃ W4, (((W.alloc (.cells #[.pointer (some ⟨b, 0, none⟩)] 72)).alloc (.cells #[.int .i64 f] 3)).alloc (.cells #[.bool back] 4)).alloc (.cells #[.func (.yield lp) #[] #[]] 117) = W4 := ⟨_, rfl⟩
  rw [hW4] at K0 K1 K2 K3 HK4 HJ4 HB4 a0 a1 ⊢
  clear hW4
  gi_loopw [23] (fun i wr => ∃ q : Nat, i = .int .i64 q ∧ q ≤ xs.length ∧ Aside0 (J (pre ++ (items_string f back xs).take q) wr) ∧ Aside0 (KeepC w0.heap.size m W4 wr)) (fun i wr => xs.length - (intOf i).toNat)
  case atStart => exact ⟨0, rfl, Nat.zero_le _, by simpa using HJ4, ⟨KeepC.refl _ _ _⟩⟩
  case round =>
    obtain ⟨q, rfl, hq, HJ, HK⟩ := hrel
    have hbr : Below w0.heap.size w0 wr := (hB.trans HK4.out.below).trans HK.out.below
    have b0 : wr.cell? ⟨b, 0, none⟩ = some (.int .i64 (xs.length : Int)) := (hbr.cell (World.block_lt_of_cell? w0 _ ((blk_cell h3 0).trans rfl))).trans ((blk_cell h3 0).trans rfl)
    have y0 := HK.out.cell hm K0.out
    have y1 := HK.out.cell (Nat.le_succ_of_le hm) K1.out
    have y2 := HK.out.cell (Nat.le_succ_of_le (Nat.le_succ_of_le hm)) K2.out
    have y3 := HK.out.cell (Nat.le_succ_of_le (Nat.le_succ_of_le (Nat.le_succ_of_le hm))) K3.out
    by_cases hlt : q < xs.length
    · have hlb : decide ((q : Int) < (xs.length : Int)) = true := by simp; omega
      cases back with
      | false =>
        have hjd : J (pre ++ (items_string f false xs).take q) wr.drew := hJ _ wr wr.drew none HJ.out (grown_of_below (below_drew (Below.refl _ _)) none) (fun r e => by cases e)
        have hjl : q < xs.length := hlt
        have hnext : (items_string f false xs).take (q + 1) = (items_string f false xs).take q ++ [(f + (q : Int), xs[q])] := by
          rw [List.take_succ_eq_append_getElem (by rw [items_len_string]; exact hlt), items_fwd_string f xs q hlt]
        obtain ⟨fn, tmps, assign, body, hy, hR⟩ := hY (pre ++ (items_string f false xs).take q) (f + (q : Int), xs[q]) wr.drew hjd (by rw [List.length_append, List.length_take, items_len_string]; omega)
        have hit : wr.cell? ⟨b, 4 + q, none⟩ = some ((Value.string) xs[q]) := by
          obtain ⟨_, he, hc⟩ := IsN.item_string (show IsN K_string w0 (some ⟨b, 0, none⟩) (.leaf xs) from ⟨b, rfl, x1, x16, h3⟩) q hjl
          cases he
          exact (hbr.cell (World.block_lt_of_cell? w0 _ hc)).trans hc
        have hq16 : (q : Int) < 16 := by omega
        have hq0 : (0 : Int) ≤ (q : Int) := Int.natCast_nonneg _
        have hw : IntKind.i64.wrap (f + (q : Int)) = f + (q : Int) := IntWalk.i64_in _ (by omega)
        obtain ⟨x, hx⟩ : ∃ x, xs[q] = x := ⟨_, rfl⟩
        rw [hx] at hit hy hR hnext
        dsimp only [enc2_string] at hy
        have hR2 := hR.mono (R' := fun e W' => ∃ bb : Bool, e = .returned (.bool bb) ∧ Aside0 ((bb = true ∧ J (pre ++ (items_string f false xs).take q ++ [(f + (q : Int), x)]) W' ∧ KeepC w0.heap.size m wr.drew W') ∨ (bb = false ∧ Jx (pre ++ (items_string f false xs).take q ++ [(f + (q : Int), x)]) W'))) (fun e W' h => by
          rcases h with ⟨he, h⟩ | ⟨he, h⟩
          · exact ⟨true, he, ⟨.inl ⟨rfl, h⟩⟩⟩
          · exact ⟨false, he, ⟨.inr ⟨rfl, h⟩⟩⟩)
        have HNX := Aside0.mk hnext
        have hdd : ∀ k : Nat, (Fence.wide.depth.isSome = true → 1 ≤ k) := fun k h => by simp [Fence.wide] at h
        clear hnext hx hY hJ hR hjd hj HJ4 K0 K1 K2 K3
        gi_wp2
        refine region_cut (β := Bool) (fun bb W' => Aside0 ((bb = true ∧ J (pre ++ (items_string f false xs).take q ++ [(f + (q : Int), x)]) W' ∧ KeepC w0.heap.size m wr.drew W') ∨ (bb = false ∧ Jx (pre ++ (items_string f false xs).take q ++ [(f + (q : Int), x)]) W'))) ?a' ?h1 ?h2
        case h1 =>
          gi_region_with ((try refine ⟨hdd _, ?_⟩); refine (round_any hR2).mono ?_; rintro e W2 ⟨bb, rfl, hbb⟩)
          all_goals (refine ⟨bb, ?_, hbb⟩; first | (simp only [Act.put, List.setIfInBounds_toArray, List.set_cons_zero, List.set_cons_succ, i64_w, i32_w]; done) | (simp only [Act.put, List.setIfInBounds_toArray, List.set_cons_zero, List.set_cons_succ, i64_w, i32_w]; rfl))
        case h2 =>
          intro bb W2 hbb
          cases bb with
          | true =>
            obtain ⟨_, hJ2, hK2⟩ : True ∧ _ := by rcases hbb.out with ⟨_, h⟩ | ⟨h, _⟩; exact ⟨trivial, h⟩; cases h
            have HJ2 := Aside0.mk hJ2
            have HK2 := Aside0.mk (HK.out.trans ((KeepC.ofBelow (below_drew (Below.refl _ _)) hbr.size).trans hK2))
            clear hJ2 hK2 hbb
            gi_wp2
            go_roundw
            case rel => exact ⟨q + 1, by go_num, by omega, ⟨by rw [HNX.out, ← List.append_assoc]; exact HJ2.out⟩, HK2⟩
            case measure => simp [intOf]; omega
          | false =>
            have HJ2 := Aside0.mk (show Jx _ _ by rcases hbb.out with ⟨h, _⟩ | ⟨_, h⟩; cases h; exact h)
            clear hbb
            gi_wp2
            go_ret
            refine .inr ⟨rfl, _, ?_, by rw [List.append_assoc] at HJ2; exact HJ2.out⟩
            rw [← HNX.out]
            exact List.take_prefix _ _
      | true =>
        have hjd : J (pre ++ (items_string f true xs).take q) wr.drew := hJ _ wr wr.drew none HJ.out (grown_of_below (below_drew (Below.refl _ _)) none) (fun r e => by cases e)
        obtain ⟨j, hj_⟩ : ∃ j, j = xs.length - 1 - q := ⟨_, rfl⟩
        have hjl : j < xs.length := by omega
        have hkk : Aside0 ((xs.length : Int) - 1 - (q : Int) = (j : Int)) := ⟨by omega⟩
        have hnext : (items_string f true xs).take (q + 1) = (items_string f true xs).take q ++ [(f + (j : Int), xs[j])] := by
          rw [List.take_succ_eq_append_getElem (by rw [items_len_string]; exact hlt), items_rev_string f xs q j hlt hj_ hjl]
        obtain ⟨fn, tmps, assign, body, hy, hR⟩ := hY (pre ++ (items_string f true xs).take q) (f + (j : Int), xs[j]) wr.drew hjd (by rw [List.length_append, List.length_take, items_len_string]; omega)
        have hit : wr.cell? ⟨b, 4 + j, none⟩ = some ((Value.string) xs[j]) := by
          obtain ⟨_, he, hc⟩ := IsN.item_string (show IsN K_string w0 (some ⟨b, 0, none⟩) (.leaf xs) from ⟨b, rfl, x1, x16, h3⟩) j hjl
          cases he
          exact (hbr.cell (World.block_lt_of_cell? w0 _ hc)).trans hc
        have hq16 : (j : Int) < 16 := by omega
        have hq0 : (0 : Int) ≤ (j : Int) := Int.natCast_nonneg _
        have hw : IntKind.i64.wrap (f + (j : Int)) = f + (j : Int) := IntWalk.i64_in _ (by omega)
        obtain ⟨x, hx⟩ : ∃ x, xs[j] = x := ⟨_, rfl⟩
        rw [hx] at hit hy hR hnext
        dsimp only [enc2_string] at hy
        have hR2 := hR.mono (R' := fun e W' => ∃ bb : Bool, e = .returned (.bool bb) ∧ Aside0 ((bb = true ∧ J (pre ++ (items_string f true xs).take q ++ [(f + (j : Int), x)]) W' ∧ KeepC w0.heap.size m wr.drew W') ∨ (bb = false ∧ Jx (pre ++ (items_string f true xs).take q ++ [(f + (j : Int), x)]) W'))) (fun e W' h => by
          rcases h with ⟨he, h⟩ | ⟨he, h⟩
          · exact ⟨true, he, ⟨.inl ⟨rfl, h⟩⟩⟩
          · exact ⟨false, he, ⟨.inr ⟨rfl, h⟩⟩⟩)
        have HNX := Aside0.mk hnext
        have hdd : ∀ k : Nat, (Fence.wide.depth.isSome = true → 1 ≤ k) := fun k h => by simp [Fence.wide] at h
        clear hnext hx hY hJ hR hjd hj HJ4 hj_ K0 K1 K2 K3
        gi_wp2
        rw [hkk.out]
        refine region_cut (β := Bool) (fun bb W' => Aside0 ((bb = true ∧ J (pre ++ (items_string f true xs).take q ++ [(f + (j : Int), x)]) W' ∧ KeepC w0.heap.size m wr.drew W') ∨ (bb = false ∧ Jx (pre ++ (items_string f true xs).take q ++ [(f + (j : Int), x)]) W'))) ?a2 ?g1 ?g2
        case g1 =>
          gi_region_with ((try refine ⟨hdd _, ?_⟩); refine (round_any hR2).mono ?_; rintro e W2 ⟨bb, rfl, hbb⟩)
          all_goals (refine ⟨bb, ?_, hbb⟩; first | (simp only [Act.put, List.setIfInBounds_toArray, List.set_cons_zero, List.set_cons_succ, i64_w, i32_w]; done) | (simp only [Act.put, List.setIfInBounds_toArray, List.set_cons_zero, List.set_cons_succ, i64_w, i32_w]; rfl))
        case g2 =>
          intro bb W2 hbb
          cases bb with
          | true =>
            obtain ⟨_, hJ2, hK2⟩ : True ∧ _ := by rcases hbb.out with ⟨_, h⟩ | ⟨h, _⟩; exact ⟨trivial, h⟩; cases h
            have HJ2 := Aside0.mk hJ2
            have HK2 := Aside0.mk (HK.out.trans ((KeepC.ofBelow (below_drew (Below.refl _ _)) hbr.size).trans hK2))
            clear hJ2 hK2 hbb
            gi_wp2
            go_roundw
            case rel => exact ⟨q + 1, by go_num, by omega, ⟨by rw [HNX.out, ← List.append_assoc]; exact HJ2.out⟩, HK2⟩
            case measure => simp [intOf]; omega
          | false =>
            have HJ2 := Aside0.mk (show Jx _ _ by rcases hbb.out with ⟨h, _⟩ | ⟨_, h⟩; cases h; exact h)
            clear hbb
            gi_wp2
            go_ret
            refine .inr ⟨rfl, _, ?_, by rw [List.append_assoc] at HJ2; exact HJ2.out⟩
            rw [← HNX.out]
            exact List.take_prefix _ _
    · obtain rfl : q = xs.length := by omega
      have hlb : decide ((xs.length : Int) < (xs.length : Int)) = false := by simp
      have hlb2 : decide (xs.length < xs.length) = false := by simp
      have HJ2 := Aside0.mk (show J (pre ++ items_string f back xs) wr by have := HJ.out; rwa [List.take_of_length_le (by rw [items_len_string]; exact Nat.le_refl _)] at this)
      have HK2 := Aside0.mk (HK4.out.trans HK.out)
      clear hY hJ HJ
      gi_wp2
      go_ret
      exact .inl ⟨rfl, HJ2.out, HK2.out⟩

end Go.Proofs.Ytlopceimlipemaa.Rope
