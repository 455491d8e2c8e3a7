import Derived.Test.YtlopceimlipemaaRBal
import Derived.Test.YtlopceimlipemaaRLeaf
import Derived.Test.YtlopceimlipemaaRPure
import Derived.StillTailTactics
namespace Go.Proofs.Ytlopceimlipemaa.Rope
open Go.RowKit Go.Proofs.YtlopceimlipemaaW.PrintWords Go.Proofs.YtlopceimlipemaaW.PrintLast Go.Proofs.YtlopceimlipemaaW.PrintMore
set_option linter.unusedVariables false
set_option linter.unusedSimpArgs false

/-- What a call of 'join' answers. -/
def Joins_int (p q : Option Addr) (w : World) (r : Tr Int) : Prop := Calls Try.prog 55 #[.pointer p, .pointer q] w fun e w' => ∃ g, e = .returned (.pointer g) ∧ IsN K_int w' g r ∧ Below w.heap.size w w'
theorem flatMap_eq_int (xs : List Int) : xs.flatMap K_int.enc = xs.map ((.int .i64 : Int → Value)) := by
  induction xs with
  | nil => rfl
  | cons x r ih => simp only [List.flatMap_cons, List.map_cons, ih]; rfl
/-- A leaf's elements, as a row that is read. -/
theorem leaf_C_int {w : World} {b : Nat} {xs : List Int} (h : w.heap[b]? = some (K_int.cells xs.length 1 none none (xs.flatMap K_int.enc ++ K_int.zs (16 - xs.length)))) (hl : xs.length ≤ 16) : D_int.C w (some ⟨b, 4, none⟩) xs.length xs := by
  refine ⟨rfl, by omega, fun _ => ⟨_, rfl, fun j p hj => ⟨[((.int .i64 : Int → Value)) p], rfl, rfl, fun i u hu => ?_⟩⟩⟩
  have hf : xs.flatMap K_int.enc = xs.map ((.int .i64 : Int → Value)) := flatMap_eq_int xs
  obtain ⟨hjl, hjp⟩ := List.getElem?_eq_some_iff.1 hj
  cases i with
  | succ i => simp at hu
  | zero =>
    simp only [List.getElem?_cons_zero, Option.some.injEq] at hu
    subst hu
    have hb := blk_cell h (4 + j)
    have e : (⟨b, 4, none⟩ : Addr).add (j * D_int.sz + 0) = ⟨b, 4 + j, none⟩ := by
      show (⟨b, 4, none⟩ : Addr).add (j * 1 + 0) = _
      unfold Addr.add
      split <;> simp_all
    rw [e, hb, hf]
    simp only [List.getElem?_toArray]
    rw [show 4 + j = j + 4 by omega]
    simp only [List.getElem?_cons_succ]
    rw [List.getElem?_append_left (by simpa using hjl), List.getElem?_map, hj]
    rfl
set_option maxRecDepth 100000 in
set_option maxHeartbeats 4000000 in
theorem join1_int.calls (p q : Option Addr) (xs ys : List Int) (w : World) (ha : IsN K_int w p (.leaf xs)) (hb : IsN K_int w q (.leaf ys)) (hs : xs.length + ys.length ≤ 16) : Joins_int p q w (.leaf (xs ++ ys)) := by
  unfold Joins_int
  obtain ⟨ba, rfl, ax1, ax2, ha3⟩ := ha
  obtain ⟨bb, rfl, bx1, bx2, hb3⟩ := hb
  have a0 : w.cell? ⟨ba, 0, none⟩ = some (.int .i64 (xs.length : Int)) := (blk_cell ha3 0).trans rfl
  have a1 : w.cell? ⟨ba, 1, none⟩ = some (.int .i64 1) := (blk_cell ha3 1).trans rfl
  have b0 : w.cell? ⟨bb, 0, none⟩ = some (.int .i64 (ys.length : Int)) := (blk_cell hb3 0).trans rfl
  have b1 : w.cell? ⟨bb, 1, none⟩ = some (.int .i64 1) := (blk_cell hb3 1).trans rfl
  have HX := Aside0.mk (leaf_C_int ha3 ax2)
  have HY := Aside0.mk (leaf_C_int hb3 bx2)
  clear ha3 hb3
  have d1 : decide ((xs.length : Int) + (ys.length : Int) ≤ 16) = true := by simp; omega
  go_enter Try.func55, Try.ntmps55
  go_wp2_with fail
  go_quiet (fail)
  go_wp2_with fail
  refine world_any (w := w) (by repeat (first | exact Below.refl _ _ | apply pw_below_drewN | apply below_drew)) ?_
  intro w1 hB1
  replace a0 := pw_cell_below hB1 a0
  replace b0 := pw_cell_below hB1 b0
  clear a1 b1 d1
  have hx16 : (xs.length : Int) ≤ 16 := by omega
  have hy16 : (ys.length : Int) ≤ 16 := by omega
  go_still_tail 16, (by kernel_rfl)
  change wpList _ _ _ _ _ w1.drew
  have hB2 : Below w.heap.size w w1.drew := below_drew hB1
  generalize w1.drew = w2 at *
  have hN := heap_new w2 (.cells #[.slice (some ⟨ba, 4, none⟩) xs.length 16, .slice (some ⟨bb, 4, none⟩) ys.length 16] 22)
  have hB3 : Below w.heap.size w (w2.alloc (.cells #[.slice (some ⟨ba, 4, none⟩) xs.length 16, .slice (some ⟨bb, 4, none⟩) ys.length 16] 22)) := hB2.alloc hB2.size _
  have HN := Aside0.mk hN
  have H3 := Aside0.mk hB3
  clear hN hB3 a0 b0
  have HAP : Aside0 ((xs ++ ys).length = xs.length + ys.length) := ⟨List.length_append⟩
  have hll : lens [xs, ys] * 8 ≤ 140737488355328 := by simp only [lens]; omega
  have hcc := concat_int.calls (some ⟨w2.heap.size, 0, none⟩) 2 [xs, ys] _ (two_C HN.out ax2 bx2 (Kd.C_below HX.out H3.out) (Kd.C_below HY.out H3.out)) hll
  rw [show [xs, ys].length = 2 from rfl] at hcc
  go_wp2_with (first
    | (go_at_call 27; with_reducible refine hcc.mono ?_; clear hcc; rintro e w4 ⟨v, rfl, hR, hB4⟩; rw [show [xs, ys].flatten = xs ++ ys by simp] at hR; obtain ⟨A4, c4, hv, hl4, hC4⟩ := Kd.R_reads hR; obtain ⟨n, hn⟩ : ∃ n, (xs ++ ys).length = n := ⟨_, rfl⟩; rw [hn] at hv hl4 hC4; have hn16 : n ≤ 16 := (by have h_ := HAP.out; omega); subst hv; have HN4 := Aside0.mk hn; clear hn; have HC4 := Aside0.mk hC4; have H4 := Aside0.mk (below_step H3.out hB4); clear hR hC4 hB4)
    | (go_at_call 68; with_reducible refine (leafn_int.calls A4 c4 n (xs ++ ys) _ HN4.out HC4.out hn16).mono ?_; rintro e w5 ⟨g, rfl, hO, hB5⟩; have HO := Aside0.mk hO; have H5 := Aside0.mk (below_step H4.out hB5); clear hO hB5))
  go_ret
  refine ⟨_, rfl, ?_, H5.out⟩
  have hO := HO.out
  rw [leafO, if_neg (by have h_ := HAP.out; omega)] at hO
  exact hO

set_option maxRecDepth 100000 in
set_option maxHeartbeats 4000000 in
theorem join3_int.calls (p q : Option Addr) (al ar b : Tr Int) (w : World) (ha : IsN K_int w p (.fork al ar)) (hb : IsN K_int w q b) (hs : (Tr.fork al ar).len + b.len ≤ 4611686018427387904) (hc : b.ht + 1 < (Tr.fork al ar).ht) (r : Tr Int) (hr : r.len = ar.len + b.len)
    (ih : ∀ (p q : Option Addr) (w : World), IsN K_int w p ar → IsN K_int w q b → Joins_int p q w r) : Joins_int p q w (Tr.bal al r) := by
  unfold Joins_int at *
  obtain ⟨ba, la, ra, rfl, a0, a1, a2, a3, hla, hra⟩ := ha.node
  obtain ⟨bb, _, _, rfl, b0, b1, _, _, _⟩ := hb.node
  have z1 := ha.ht_le
  have z2 := hb.ht_le
  have z5 := Tr.ht_pos b
  have HB := Aside0.mk hb
  have HLA := Aside0.mk hla
  have HRA := Aside0.mk hra
  clear ha hb hla hra
  obtain ⟨hta, ehta⟩ : ∃ n : Nat, n = (Tr.fork al ar).ht := ⟨_, rfl⟩
  rw [← ehta] at a1 hc z1
  have d0 : ((hta : Int) == 1) = false := by simp; omega
  have d1 : decide ((b.ht : Int) + 1 < (hta : Int)) = true := by simp; omega
  have z3 : hta ≤ 4611686018427387904 := by omega
  have z4 : b.ht ≤ 4611686018427387904 := by omega
  have hs2 : al.len + r.len ≤ 4611686018427387904 := by simp only [Tr.len] at hs; omega
  have IH := Aside0.mk ih
  clear ehta hc z1 z2 z5 hr hs ih
  go_enter Try.func55, Try.ntmps55
  go_wp2_with fail
  go_quiet (fail)
  go_wp2_with fail
  go_quiet (fail)
  go_wp2_with fail
  refine world_any (w := w) (by repeat (first | exact Below.refl _ _ | apply pw_below_drewN | apply below_drew)) ?_
  intro w1 hB1
  go_region_held3 (fun w' => w'.cell? ⟨ba, 2, none⟩ = some (.pointer la) ∧ w'.cell? ⟨ba, 3, none⟩ = some (.pointer ra))
    (first | exact ⟨pw_cell_below hS (pw_cell_below hB1 a2), pw_cell_below hS (pw_cell_below hB1 a3)⟩ | exact ⟨pw_cell_below (below_drew (Below.refl _ _)) (pw_cell_below hB1 a2), pw_cell_below (below_drew (Below.refl _ _)) (pw_cell_below hB1 a3)⟩ | go_keep)
    ((first
      | (go_at_call 55; have hS := below_drew (Below.refl w1.heap.size w1); with_reducible refine (IH.out _ _ _ (HRA.out.below (below_step hB1 hS)) (HB.out.below (below_step hB1 hS))).mono ?_; rintro e w' ⟨g1, rfl, hn1, hb1⟩; have hT1 := below_step hS hb1; clear hS; have hS := hT1)
      | (go_at_call 71; with_reducible refine (bal_int.calls _ _ al r _ (HLA.out.below (below_step hB1 hS)) hn1 hs2).mono ?_; rintro e w' ⟨g2, rfl, hn2, hb2⟩; have hT2 := below_step hS hb2; clear hS; have hS := hT2)))
  go_wp2
  go_ret
  exact ⟨_, rfl, hn2, below_step hB1 hS⟩
set_option maxRecDepth 100000 in
set_option maxHeartbeats 4000000 in
theorem join4_int.calls (p q : Option Addr) (a bl br : Tr Int) (w : World) (ha : IsN K_int w p a) (hb : IsN K_int w q (.fork bl br)) (hs : a.len + (Tr.fork bl br).len ≤ 4611686018427387904) (hc : a.ht + 1 < (Tr.fork bl br).ht) (r : Tr Int) (hr : r.len = a.len + bl.len)
    (ih : ∀ (p q : Option Addr) (w : World), IsN K_int w p a → IsN K_int w q bl → Joins_int p q w r) : Joins_int p q w (Tr.bal r br) := by
  unfold Joins_int at *
  obtain ⟨ba, _, _, rfl, a0, a1, _, _, _⟩ := ha.node
  obtain ⟨bb, lb, rb, rfl, b0, b1, b2, b3, hlb, hrb⟩ := hb.node
  have z1 := ha.ht_le
  have z2 := hb.ht_le
  have z5 := Tr.ht_pos a
  have HA := Aside0.mk ha
  have HLB := Aside0.mk hlb
  have HRB := Aside0.mk hrb
  clear ha hb hlb hrb
  obtain ⟨htb, ehtb⟩ : ∃ n : Nat, n = (Tr.fork bl br).ht := ⟨_, rfl⟩
  rw [← ehtb] at b1 hc z2
  have e1 : ((htb : Int) == 1) = false := by simp; omega
  have d0 : decide ((htb : Int) + 1 < (a.ht : Int)) = false := by simp; omega
  have d1 : decide ((a.ht : Int) + 1 < (htb : Int)) = true := by simp; omega
  have z3 : htb ≤ 4611686018427387904 := by omega
  have z4 : a.ht ≤ 4611686018427387904 := by omega
  have hs2 : r.len + br.len ≤ 4611686018427387904 := by simp only [Tr.len] at hs; omega
  have IH := Aside0.mk ih
  clear ehtb hc z1 z2 z5 hr hs ih
  by_cases h1 : a.ht = 1
  · have e0 : ((a.ht : Int) == 1) = true := by simp; omega
    clear h1
    go_enter Try.func55, Try.ntmps55
    go_wp2_with fail
    go_quiet (fail)
    go_wp2_with fail
    go_quiet (fail)
    go_wp2_with fail
    go_quiet (fail)
    go_wp2_with fail
    refine world_any (w := w) (by repeat (first | exact Below.refl _ _ | apply pw_below_drewN | apply below_drew)) ?_
    intro w1 hB1
    go_region_held3 (fun w' => w'.cell? ⟨bb, 2, none⟩ = some (.pointer lb) ∧ w'.cell? ⟨bb, 3, none⟩ = some (.pointer rb))
      (first | exact ⟨pw_cell_below hS (pw_cell_below hB1 b2), pw_cell_below hS (pw_cell_below hB1 b3)⟩ | exact ⟨pw_cell_below (below_drew (Below.refl _ _)) (pw_cell_below hB1 b2), pw_cell_below (below_drew (Below.refl _ _)) (pw_cell_below hB1 b3)⟩ | go_keep)
      ((first
        | (go_at_call 55; have hS := below_drew (Below.refl w1.heap.size w1); with_reducible refine (IH.out _ _ _ (HA.out.below (below_step hB1 hS)) (HLB.out.below (below_step hB1 hS))).mono ?_; rintro e w' ⟨g1, rfl, hn1, hb1⟩; have hT1 := below_step hS hb1; clear hS; have hS := hT1)
        | (go_at_call 71; with_reducible refine (bal_int.calls _ _ r br _ hn1 (HRB.out.below (below_step hB1 hS)) hs2).mono ?_; rintro e w' ⟨g2, rfl, hn2, hb2⟩; have hT2 := below_step hS hb2; clear hS; have hS := hT2)))
    go_wp2
    go_ret
    exact ⟨_, rfl, hn2, below_step hB1 hS⟩
  · have e0 : ((a.ht : Int) == 1) = false := by simp; omega
    clear h1
    go_enter Try.func55, Try.ntmps55
    go_wp2_with fail
    go_quiet (fail)
    go_wp2_with fail
    go_quiet (fail)
    go_wp2_with fail
    go_quiet (fail)
    go_wp2_with fail
    refine world_any (w := w) (by repeat (first | exact Below.refl _ _ | apply pw_below_drewN | apply below_drew)) ?_
    intro w1 hB1
    go_region_held3 (fun w' => w'.cell? ⟨bb, 2, none⟩ = some (.pointer lb) ∧ w'.cell? ⟨bb, 3, none⟩ = some (.pointer rb))
      (first | exact ⟨pw_cell_below hS (pw_cell_below hB1 b2), pw_cell_below hS (pw_cell_below hB1 b3)⟩ | exact ⟨pw_cell_below (below_drew (Below.refl _ _)) (pw_cell_below hB1 b2), pw_cell_below (below_drew (Below.refl _ _)) (pw_cell_below hB1 b3)⟩ | go_keep)
      ((first
        | (go_at_call 55; have hS := below_drew (Below.refl w1.heap.size w1); with_reducible refine (IH.out _ _ _ (HA.out.below (below_step hB1 hS)) (HLB.out.below (below_step hB1 hS))).mono ?_; rintro e w' ⟨g1, rfl, hn1, hb1⟩; have hT1 := below_step hS hb1; clear hS; have hS := hT1)
        | (go_at_call 71; with_reducible refine (bal_int.calls _ _ r br _ hn1 (HRB.out.below (below_step hB1 hS)) hs2).mono ?_; rintro e w' ⟨g2, rfl, hn2, hb2⟩; have hT2 := below_step hS hb2; clear hS; have hS := hT2)))
    go_wp2
    go_ret
    exact ⟨_, rfl, hn2, below_step hB1 hS⟩
set_option maxRecDepth 100000 in
set_option maxHeartbeats 4000000 in
theorem join5_int.calls (p q : Option Addr) (a b : Tr Int) (w : World) (ha : IsN K_int w p a) (hb : IsN K_int w q b) (hs : a.len + b.len ≤ 4611686018427387904) (hc : ¬ b.ht + 1 < a.ht) (hd : ¬ a.ht + 1 < b.ht) (he : ¬ (a.ht = 1 ∧ b.ht = 1 ∧ a.len + b.len ≤ 16)) : Joins_int p q w (.fork a b) := by
  unfold Joins_int
  obtain ⟨ba, _, _, rfl, a0, a1, _, _, _⟩ := ha.node
  obtain ⟨bb, _, _, rfl, b0, b1, _, _, _⟩ := hb.node
  have z1 := ha.ht_le
  have z2 := hb.ht_le
  have HA := Aside0.mk ha
  have HB := Aside0.mk hb
  clear ha hb
  have d0 : decide ((b.ht : Int) + 1 < (a.ht : Int)) = false := by simp; omega
  have d1 : decide ((a.ht : Int) + 1 < (b.ht : Int)) = false := by simp; omega
  have z3 : b.ht ≤ 4611686018427387904 := by omega
  have z4 : a.ht ≤ 4611686018427387904 := by omega
  have z5 : a.len ≤ 4611686018427387904 := by omega
  have z6 : b.len ≤ 4611686018427387904 := by omega
  have hg : (((a.ht : Int) == 1) = false ∧ True ∧ True) ∨ (((a.ht : Int) == 1) = true ∧ ((b.ht : Int) == 1) = false ∧ True) ∨ (((a.ht : Int) == 1) = true ∧ ((b.ht : Int) == 1) = true ∧ decide ((a.len : Int) + (b.len : Int) ≤ 16) = false) := by
    by_cases h1 : a.ht = 1
    · by_cases h2 : b.ht = 1
      · exact .inr (.inr ⟨by simp [h1], by simp [h2], by simp; omega⟩)
      · exact .inr (.inl ⟨by simp [h1], by simp; omega, trivial⟩)
    · exact .inl ⟨by simp; omega, trivial, trivial⟩
  clear hc hd he z1 z2
  rcases hg with ⟨e0, _, _⟩ | ⟨e0, e1, _⟩ | ⟨e0, e1, e2⟩
  all_goals
    go_enter Try.func55, Try.ntmps55
    go_wp2_with fail
    go_quiet (fail)
    go_wp2_with fail
    go_quiet (fail)
    go_wp2_with fail
    go_quiet (fail)
    go_wp2_with fail
    refine calls_world (w := w) (by repeat (first | exact Below.refl _ _ | apply pw_below_drewN | apply below_drew)) ?_
    intro w1 hB1
    refine (fork_int.calls _ _ a b _ (HA.out.below hB1) (HB.out.below hB1) hs).mono ?_
    rintro e w' ⟨g1, rfl, hn1, hb1⟩
    go_wp2_with fail
    go_ret
    exact ⟨_, rfl, hn1, below_step hB1 hb1⟩
theorem joins_int : ∀ (n : Nat) (a b : Tr Int) (p q : Option Addr) (w : World), SizeOf.sizeOf a + SizeOf.sizeOf b ≤ n → IsN K_int w p a → IsN K_int w q b → a.len + b.len ≤ 4611686018427387904 → Joins_int p q w (Tr.join a b) := by
  intro n
  induction n with
  | zero => intro a b p q w h; cases a <;> simp at h
  | succ n ih =>
    intro a b p q w h ha hb hs
    rw [Tr.join.eq_def]
    by_cases h1 : a.ht = 1 ∧ b.ht = 1 ∧ a.len + b.len ≤ 16
    · rw [if_pos h1]
      cases a with
      | fork al ar => have := Tr.ht_pos al; have := h1.1; simp only [Tr.ht] at this; omega
      | leaf xs =>
        cases b with
        | fork bl br => have := Tr.ht_pos bl; have := h1.2.1; simp only [Tr.ht] at this; omega
        | leaf ys => exact join1_int.calls p q xs ys w ha hb h1.2.2
    · rw [if_neg h1]
      by_cases h2 : b.ht + 1 < a.ht
      · rw [if_pos h2]
        cases a with
        | leaf xs => simp [Tr.ht] at h2
        | fork al ar =>
          have hl : ar.len + b.len ≤ 4611686018427387904 := by simp only [Tr.len] at hs; omega
          exact join3_int.calls p q al ar b w ha hb hs h2 (Tr.join ar b) (Tr.join_len ar b) fun p q w hp hq => ih ar b p q w (by simp at h; omega) hp hq hl
      · rw [if_neg h2]
        by_cases h3 : a.ht + 1 < b.ht
        · rw [if_pos h3]
          cases b with
          | leaf xs => simp [Tr.ht] at h3
          | fork bl br =>
            have hl : a.len + bl.len ≤ 4611686018427387904 := by simp only [Tr.len] at hs; omega
            exact join4_int.calls p q a bl br w ha hb hs h3 (Tr.join a bl) (Tr.join_len a bl) fun p q w hp hq => ih a bl p q w (by simp at h; omega) hp hq hl
        · rw [if_neg h3]; exact join5_int.calls p q a b w ha hb hs h2 h3 h1
set_option maxRecDepth 100000 in
set_option maxHeartbeats 4000000 in
theorem join_int.calls (p q : Option Addr) (a b : Option (Tr Int)) (w : World) (ha : IsO K_int w p a) (hb : IsO K_int w q b) (hs : lenO a + lenO b ≤ 4611686018427387904) :
    Calls Try.prog 55 #[.pointer p, .pointer q] w fun e w' => ∃ g, e = .returned (.pointer g) ∧ IsO K_int w' g (joinO a b) ∧ Below w.heap.size w w' := by
  cases a with
  | none =>
    obtain rfl : p = none := ha
    have HB := Aside0.mk hb
    clear hb
    go_enter Try.func55, Try.ntmps55
    go_wp2
    go_ret
    exact ⟨_, rfl, HB.out, Below.refl _ _⟩
  | some a =>
    cases b with
    | none =>
      obtain rfl : q = none := hb
      have HA := Aside0.mk ha
      obtain ⟨ba, _, _, rfl, _⟩ := IsN.node ha
      clear ha
      go_enter Try.func55, Try.ntmps55
      go_wp2
      go_ret
      exact ⟨_, rfl, HA.out, Below.refl _ _⟩
    | some b => exact joins_int _ a b p q w (Nat.le_refl _) ha hb hs

end Go.Proofs.Ytlopceimlipemaa.Rope

namespace Go.Proofs.Ytlopceimlipemaa.Rope
open Go.RowKit Go.Proofs.YtlopceimlipemaaW.PrintWords Go.Proofs.YtlopceimlipemaaW.PrintLast Go.Proofs.YtlopceimlipemaaW.PrintMore
set_option linter.unusedVariables false
set_option linter.unusedSimpArgs false

/-- What a call of 'join' answers. -/
def Joins_string (p q : Option Addr) (w : World) (r : Tr ByteArray) : Prop := Calls Try.prog 66 #[.pointer p, .pointer q] w fun e w' => ∃ g, e = .returned (.pointer g) ∧ IsN K_string w' g r ∧ Below w.heap.size w w'
theorem flatMap_eq_string (xs : List ByteArray) : xs.flatMap K_string.enc = xs.map (Value.string) := by
  induction xs with
  | nil => rfl
  | cons x r ih => simp only [List.flatMap_cons, List.map_cons, ih]; rfl
/-- A leaf's elements, as a row that is read. -/
theorem leaf_C_string {w : World} {b : Nat} {xs : List ByteArray} (h : w.heap[b]? = some (K_string.cells xs.length 1 none none (xs.flatMap K_string.enc ++ K_string.zs (16 - xs.length)))) (hl : xs.length ≤ 16) : D_string.C w (some ⟨b, 4, none⟩) xs.length xs := by
  refine ⟨rfl, by omega, fun _ => ⟨_, rfl, fun j p hj => ⟨[(Value.string) p], rfl, rfl, fun i u hu => ?_⟩⟩⟩
  have hf : xs.flatMap K_string.enc = xs.map (Value.string) := flatMap_eq_string xs
  obtain ⟨hjl, hjp⟩ := List.getElem?_eq_some_iff.1 hj
  cases i with
  | succ i => simp at hu
  | zero =>
    simp only [List.getElem?_cons_zero, Option.some.injEq] at hu
    subst hu
    have hb := blk_cell h (4 + j)
    have e : (⟨b, 4, none⟩ : Addr).add (j * D_string.sz + 0) = ⟨b, 4 + j, none⟩ := by
      show (⟨b, 4, none⟩ : Addr).add (j * 1 + 0) = _
      unfold Addr.add
      split <;> simp_all
    rw [e, hb, hf]
    simp only [List.getElem?_toArray]
    rw [show 4 + j = j + 4 by omega]
    simp only [List.getElem?_cons_succ]
    rw [List.getElem?_append_left (by simpa using hjl), List.getElem?_map, hj]
    rfl
set_option maxRecDepth 100000 in
set_option maxHeartbeats 4000000 in
theorem join1_string.calls (p q : Option Addr) (xs ys : List ByteArray) (w : World) (ha : IsN K_string w p (.leaf xs)) (hb : IsN K_string w q (.leaf ys)) (hs : xs.length + ys.length ≤ 16) : Joins_string p q w (.leaf (xs ++ ys)) := by
  unfold Joins_string
  obtain ⟨ba, rfl, ax1, ax2, ha3⟩ := ha
  obtain ⟨bb, rfl, bx1, bx2, hb3⟩ := hb
  have a0 : w.cell? ⟨ba, 0, none⟩ = some (.int .i64 (xs.length : Int)) := (blk_cell ha3 0).trans rfl
  have a1 : w.cell? ⟨ba, 1, none⟩ = some (.int .i64 1) := (blk_cell ha3 1).trans rfl
  have b0 : w.cell? ⟨bb, 0, none⟩ = some (.int .i64 (ys.length : Int)) := (blk_cell hb3 0).trans rfl
  have b1 : w.cell? ⟨bb, 1, none⟩ = some (.int .i64 1) := (blk_cell hb3 1).trans rfl
  have HX := Aside0.mk (leaf_C_string ha3 ax2)
  have HY := Aside0.mk (leaf_C_string hb3 bx2)
  clear ha3 hb3
  have d1 : decide ((xs.length : Int) + (ys.length : Int) ≤ 16) = true := by simp; omega
  go_enter Try.func66, Try.ntmps66
  go_wp2_with fail
  go_quiet (fail)
  go_wp2_with fail
  refine world_any (w := w) (by repeat (first | exact Below.refl _ _ | apply pw_below_drewN | apply below_drew)) ?_
  intro w1 hB1
  replace a0 := pw_cell_below hB1 a0
  replace b0 := pw_cell_below hB1 b0
  clear a1 b1 d1
  have hx16 : (xs.length : Int) ≤ 16 := by omega
  have hy16 : (ys.length : Int) ≤ 16 := by omega
  go_still_tail 16, (by kernel_rfl)
  change wpList _ _ _ _ _ w1.drew
  have hB2 : Below w.heap.size w w1.drew := below_drew hB1
  generalize w1.drew = w2 at *
  have hN := heap_new w2 (.cells #[.slice (some ⟨ba, 4, none⟩) xs.length 16, .slice (some ⟨bb, 4, none⟩) ys.length 16] 76)
  have hB3 : Below w.heap.size w (w2.alloc (.cells #[.slice (some ⟨ba, 4, none⟩) xs.length 16, .slice (some ⟨bb, 4, none⟩) ys.length 16] 76)) := hB2.alloc hB2.size _
  have HN := Aside0.mk hN
  have H3 := Aside0.mk hB3
  clear hN hB3 a0 b0
  have HAP : Aside0 ((xs ++ ys).length = xs.length + ys.length) := ⟨List.length_append⟩
  have hll : lens_string [xs, ys] * 16 ≤ 140737488355328 := by simp only [lens_string]; omega
  have hcc := concat_string.calls (some ⟨w2.heap.size, 0, none⟩) 2 [xs, ys] _ (two_C HN.out ax2 bx2 (Kd.C_below HX.out H3.out) (Kd.C_below HY.out H3.out)) hll
  rw [show [xs, ys].length = 2 from rfl] at hcc
  go_wp2_with (first
    | (go_at_call 77; with_reducible refine hcc.mono ?_; clear hcc; rintro e w4 ⟨v, rfl, hR, hB4⟩; rw [show [xs, ys].flatten = xs ++ ys by simp] at hR; obtain ⟨A4, c4, hv, hl4, hC4⟩ := Kd.R_reads hR; obtain ⟨n, hn⟩ : ∃ n, (xs ++ ys).length = n := ⟨_, rfl⟩; rw [hn] at hv hl4 hC4; have hn16 : n ≤ 16 := (by have h_ := HAP.out; omega); subst hv; have HN4 := Aside0.mk hn; clear hn; have HC4 := Aside0.mk hC4; have H4 := Aside0.mk (below_step H3.out hB4); clear hR hC4 hB4)
    | (go_at_call 76; with_reducible refine (leafn_string.calls A4 c4 n (xs ++ ys) _ HN4.out HC4.out hn16).mono ?_; rintro e w5 ⟨g, rfl, hO, hB5⟩; have HO := Aside0.mk hO; have H5 := Aside0.mk (below_step H4.out hB5); clear hO hB5))
  go_ret
  refine ⟨_, rfl, ?_, H5.out⟩
  have hO := HO.out
  rw [leafO, if_neg (by have h_ := HAP.out; omega)] at hO
  exact hO

set_option maxRecDepth 100000 in
set_option maxHeartbeats 4000000 in
theorem join3_string.calls (p q : Option Addr) (al ar b : Tr ByteArray) (w : World) (ha : IsN K_string w p (.fork al ar)) (hb : IsN K_string w q b) (hs : (Tr.fork al ar).len + b.len ≤ 4611686018427387904) (hc : b.ht + 1 < (Tr.fork al ar).ht) (r : Tr ByteArray) (hr : r.len = ar.len + b.len)
    (ih : ∀ (p q : Option Addr) (w : World), IsN K_string w p ar → IsN K_string w q b → Joins_string p q w r) : Joins_string p q w (Tr.bal al r) := by
  unfold Joins_string at *
  obtain ⟨ba, la, ra, rfl, a0, a1, a2, a3, hla, hra⟩ := ha.node
  obtain ⟨bb, _, _, rfl, b0, b1, _, _, _⟩ := hb.node
  have z1 := ha.ht_le
  have z2 := hb.ht_le
  have z5 := Tr.ht_pos b
  have HB := Aside0.mk hb
  have HLA := Aside0.mk hla
  have HRA := Aside0.mk hra
  clear ha hb hla hra
  obtain ⟨hta, ehta⟩ : ∃ n : Nat, n = (Tr.fork al ar).ht := ⟨_, rfl⟩
  rw [← ehta] at a1 hc z1
  have d0 : ((hta : Int) == 1) = false := by simp; omega
  have d1 : decide ((b.ht : Int) + 1 < (hta : Int)) = true := by simp; omega
  have z3 : hta ≤ 4611686018427387904 := by omega
  have z4 : b.ht ≤ 4611686018427387904 := by omega
  have hs2 : al.len + r.len ≤ 4611686018427387904 := by simp only [Tr.len] at hs; omega
  have IH := Aside0.mk ih
  clear ehta hc z1 z2 z5 hr hs ih
  go_enter Try.func66, Try.ntmps66
  go_wp2_with fail
  go_quiet (fail)
  go_wp2_with fail
  go_quiet (fail)
  go_wp2_with fail
  refine world_any (w := w) (by repeat (first | exact Below.refl _ _ | apply pw_below_drewN | apply below_drew)) ?_
  intro w1 hB1
  go_region_held3 (fun w' => w'.cell? ⟨ba, 2, none⟩ = some (.pointer la) ∧ w'.cell? ⟨ba, 3, none⟩ = some (.pointer ra))
    (first | exact ⟨pw_cell_below hS (pw_cell_below hB1 a2), pw_cell_below hS (pw_cell_below hB1 a3)⟩ | exact ⟨pw_cell_below (below_drew (Below.refl _ _)) (pw_cell_below hB1 a2), pw_cell_below (below_drew (Below.refl _ _)) (pw_cell_below hB1 a3)⟩ | go_keep)
    ((first
      | (go_at_call 66; have hS := below_drew (Below.refl w1.heap.size w1); with_reducible refine (IH.out _ _ _ (HRA.out.below (below_step hB1 hS)) (HB.out.below (below_step hB1 hS))).mono ?_; rintro e w' ⟨g1, rfl, hn1, hb1⟩; have hT1 := below_step hS hb1; clear hS; have hS := hT1)
      | (go_at_call 78; with_reducible refine (bal_string.calls _ _ al r _ (HLA.out.below (below_step hB1 hS)) hn1 hs2).mono ?_; rintro e w' ⟨g2, rfl, hn2, hb2⟩; have hT2 := below_step hS hb2; clear hS; have hS := hT2)))
  go_wp2
  go_ret
  exact ⟨_, rfl, hn2, below_step hB1 hS⟩
set_option maxRecDepth 100000 in
set_option maxHeartbeats 4000000 in
theorem join4_string.calls (p q : Option Addr) (a bl br : Tr ByteArray) (w : World) (ha : IsN K_string w p a) (hb : IsN K_string w q (.fork bl br)) (hs : a.len + (Tr.fork bl br).len ≤ 4611686018427387904) (hc : a.ht + 1 < (Tr.fork bl br).ht) (r : Tr ByteArray) (hr : r.len = a.len + bl.len)
    (ih : ∀ (p q : Option Addr) (w : World), IsN K_string w p a → IsN K_string w q bl → Joins_string p q w r) : Joins_string p q w (Tr.bal r br) := by
  unfold Joins_string at *
  obtain ⟨ba, _, _, rfl, a0, a1, _, _, _⟩ := ha.node
  obtain ⟨bb, lb, rb, rfl, b0, b1, b2, b3, hlb, hrb⟩ := hb.node
  have z1 := ha.ht_le
  have z2 := hb.ht_le
  have z5 := Tr.ht_pos a
  have HA := Aside0.mk ha
  have HLB := Aside0.mk hlb
  have HRB := Aside0.mk hrb
  clear ha hb hlb hrb
  obtain ⟨htb, ehtb⟩ : ∃ n : Nat, n = (Tr.fork bl br).ht := ⟨_, rfl⟩
  rw [← ehtb] at b1 hc z2
  have e1 : ((htb : Int) == 1) = false := by simp; omega
  have d0 : decide ((htb : Int) + 1 < (a.ht : Int)) = false := by simp; omega
  have d1 : decide ((a.ht : Int) + 1 < (htb : Int)) = true := by simp; omega
  have z3 : htb ≤ 4611686018427387904 := by omega
  have z4 : a.ht ≤ 4611686018427387904 := by omega
  have hs2 : r.len + br.len ≤ 4611686018427387904 := by simp only [Tr.len] at hs; omega
  have IH := Aside0.mk ih
  clear ehtb hc z1 z2 z5 hr hs ih
  by_cases h1 : a.ht = 1
  · have e0 : ((a.ht : Int) == 1) = true := by simp; omega
    clear h1
    go_enter Try.func66, Try.ntmps66
    go_wp2_with fail
    go_quiet (fail)
    go_wp2_with fail
    go_quiet (fail)
    go_wp2_with fail
    go_quiet (fail)
    go_wp2_with fail
    refine world_any (w := w) (by repeat (first | exact Below.refl _ _ | apply pw_below_drewN | apply below_drew)) ?_
    intro w1 hB1
    go_region_held3 (fun w' => w'.cell? ⟨bb, 2, none⟩ = some (.pointer lb) ∧ w'.cell? ⟨bb, 3, none⟩ = some (.pointer rb))
      (first | exact ⟨pw_cell_below hS (pw_cell_below hB1 b2), pw_cell_below hS (pw_cell_below hB1 b3)⟩ | exact ⟨pw_cell_below (below_drew (Below.refl _ _)) (pw_cell_below hB1 b2), pw_cell_below (below_drew (Below.refl _ _)) (pw_cell_below hB1 b3)⟩ | go_keep)
      ((first
        | (go_at_call 66; have hS := below_drew (Below.refl w1.heap.size w1); with_reducible refine (IH.out _ _ _ (HA.out.below (below_step hB1 hS)) (HLB.out.below (below_step hB1 hS))).mono ?_; rintro e w' ⟨g1, rfl, hn1, hb1⟩; have hT1 := below_step hS hb1; clear hS; have hS := hT1)
        | (go_at_call 78; with_reducible refine (bal_string.calls _ _ r br _ hn1 (HRB.out.below (below_step hB1 hS)) hs2).mono ?_; rintro e w' ⟨g2, rfl, hn2, hb2⟩; have hT2 := below_step hS hb2; clear hS; have hS := hT2)))
    go_wp2
    go_ret
    exact ⟨_, rfl, hn2, below_step hB1 hS⟩
  · have e0 : ((a.ht : Int) == 1) = false := by simp; omega
    clear h1
    go_enter Try.func66, Try.ntmps66
    go_wp2_with fail
    go_quiet (fail)
    go_wp2_with fail
    go_quiet (fail)
    go_wp2_with fail
    go_quiet (fail)
    go_wp2_with fail
    refine world_any (w := w) (by repeat (first | exact Below.refl _ _ | apply pw_below_drewN | apply below_drew)) ?_
    intro w1 hB1
    go_region_held3 (fun w' => w'.cell? ⟨bb, 2, none⟩ = some (.pointer lb) ∧ w'.cell? ⟨bb, 3, none⟩ = some (.pointer rb))
      (first | exact ⟨pw_cell_below hS (pw_cell_below hB1 b2), pw_cell_below hS (pw_cell_below hB1 b3)⟩ | exact ⟨pw_cell_below (below_drew (Below.refl _ _)) (pw_cell_below hB1 b2), pw_cell_below (below_drew (Below.refl _ _)) (pw_cell_below hB1 b3)⟩ | go_keep)
      ((first
        | (go_at_call 66; have hS := below_drew (Below.refl w1.heap.size w1); with_reducible refine (IH.out _ _ _ (HA.out.below (below_step hB1 hS)) (HLB.out.below (below_step hB1 hS))).mono ?_; rintro e w' ⟨g1, rfl, hn1, hb1⟩; have hT1 := below_step hS hb1; clear hS; have hS := hT1)
        | (go_at_call 78; with_reducible refine (bal_string.calls _ _ r br _ hn1 (HRB.out.below (below_step hB1 hS)) hs2).mono ?_; rintro e w' ⟨g2, rfl, hn2, hb2⟩; have hT2 := below_step hS hb2; clear hS; have hS := hT2)))
    go_wp2
    go_ret
    exact ⟨_, rfl, hn2, below_step hB1 hS⟩
set_option maxRecDepth 100000 in
set_option maxHeartbeats 4000000 in
theorem join5_string.calls (p q : Option Addr) (a b : Tr ByteArray) (w : World) (ha : IsN K_string w p a) (hb : IsN K_string w q b) (hs : a.len + b.len ≤ 4611686018427387904) (hc : ¬ b.ht + 1 < a.ht) (hd : ¬ a.ht + 1 < b.ht) (he : ¬ (a.ht = 1 ∧ b.ht = 1 ∧ a.len + b.len ≤ 16)) : Joins_string p q w (.fork a b) := by
  unfold Joins_string
  obtain ⟨ba, _, _, rfl, a0, a1, _, _, _⟩ := ha.node
  obtain ⟨bb, _, _, rfl, b0, b1, _, _, _⟩ := hb.node
  have z1 := ha.ht_le
  have z2 := hb.ht_le
  have HA := Aside0.mk ha
  have HB := Aside0.mk hb
  clear ha hb
  have d0 : decide ((b.ht : Int) + 1 < (a.ht : Int)) = false := by simp; omega
  have d1 : decide ((a.ht : Int) + 1 < (b.ht : Int)) = false := by simp; omega
  have z3 : b.ht ≤ 4611686018427387904 := by omega
  have z4 : a.ht ≤ 4611686018427387904 := by omega
  have z5 : a.len ≤ 4611686018427387904 := by omega
  have z6 : b.len ≤ 4611686018427387904 := by omega
  have hg : (((a.ht : Int) == 1) = false ∧ True ∧ True) ∨ (((a.ht : Int) == 1) = true ∧ ((b.ht : Int) == 1) = false ∧ True) ∨ (((a.ht : Int) == 1) = true ∧ ((b.ht : Int) == 1) = true ∧ decide ((a.len : Int) + (b.len : Int) ≤ 16) = false) := by
    by_cases h1 : a.ht = 1
    · by_cases h2 : b.ht = 1
      · exact .inr (.inr ⟨by simp [h1], by simp [h2], by simp; omega⟩)
      · exact .inr (.inl ⟨by simp [h1], by simp; omega, trivial⟩)
    · exact .inl ⟨by simp; omega, trivial, trivial⟩
  clear hc hd he z1 z2
  rcases hg with ⟨e0, _, _⟩ | ⟨e0, e1, _⟩ | ⟨e0, e1, e2⟩
  all_goals
    go_enter Try.func66, Try.ntmps66
    go_wp2_with fail
    go_quiet (fail)
    go_wp2_with fail
    go_quiet (fail)
    go_wp2_with fail
    go_quiet (fail)
    go_wp2_with fail
    refine calls_world (w := w) (by repeat (first | exact Below.refl _ _ | apply pw_below_drewN | apply below_drew)) ?_
    intro w1 hB1
    refine (fork_string.calls _ _ a b _ (HA.out.below hB1) (HB.out.below hB1) hs).mono ?_
    rintro e w' ⟨g1, rfl, hn1, hb1⟩
    go_wp2_with fail
    go_ret
    exact ⟨_, rfl, hn1, below_step hB1 hb1⟩
theorem joins_string : ∀ (n : Nat) (a b : Tr ByteArray) (p q : Option Addr) (w : World), SizeOf.sizeOf a + SizeOf.sizeOf b ≤ n → IsN K_string w p a → IsN K_string w q b → a.len + b.len ≤ 4611686018427387904 → Joins_string p q w (Tr.join a b) := by
  intro n
  induction n with
  | zero => intro a b p q w h; cases a <;> simp at h
  | succ n ih =>
    intro a b p q w h ha hb hs
    rw [Tr.join.eq_def]
    by_cases h1 : a.ht = 1 ∧ b.ht = 1 ∧ a.len + b.len ≤ 16
    · rw [if_pos h1]
      cases a with
      | fork al ar => have := Tr.ht_pos al; have := h1.1; simp only [Tr.ht] at this; omega
      | leaf xs =>
        cases b with
        | fork bl br => have := Tr.ht_pos bl; have := h1.2.1; simp only [Tr.ht] at this; omega
        | leaf ys => exact join1_string.calls p q xs ys w ha hb h1.2.2
    · rw [if_neg h1]
      by_cases h2 : b.ht + 1 < a.ht
      · rw [if_pos h2]
        cases a with
        | leaf xs => simp [Tr.ht] at h2
        | fork al ar =>
          have hl : ar.len + b.len ≤ 4611686018427387904 := by simp only [Tr.len] at hs; omega
          exact join3_string.calls p q al ar b w ha hb hs h2 (Tr.join ar b) (Tr.join_len ar b) fun p q w hp hq => ih ar b p q w (by simp at h; omega) hp hq hl
      · rw [if_neg h2]
        by_cases h3 : a.ht + 1 < b.ht
        · rw [if_pos h3]
          cases b with
          | leaf xs => simp [Tr.ht] at h3
          | fork bl br =>
            have hl : a.len + bl.len ≤ 4611686018427387904 := by simp only [Tr.len] at hs; omega
            exact join4_string.calls p q a bl br w ha hb hs h3 (Tr.join a bl) (Tr.join_len a bl) fun p q w hp hq => ih a bl p q w (by simp at h; omega) hp hq hl
        · rw [if_neg h3]; exact join5_string.calls p q a b w ha hb hs h2 h3 h1
set_option maxRecDepth 100000 in
set_option maxHeartbeats 4000000 in
theorem join_string.calls (p q : Option Addr) (a b : Option (Tr ByteArray)) (w : World) (ha : IsO K_string w p a) (hb : IsO K_string w q b) (hs : lenO a + lenO b ≤ 4611686018427387904) :
    Calls Try.prog 66 #[.pointer p, .pointer q] w fun e w' => ∃ g, e = .returned (.pointer g) ∧ IsO K_string w' g (joinO a b) ∧ Below w.heap.size w w' := by
  cases a with
  | none =>
    obtain rfl : p = none := ha
    have HB := Aside0.mk hb
    clear hb
    go_enter Try.func66, Try.ntmps66
    go_wp2
    go_ret
    exact ⟨_, rfl, HB.out, Below.refl _ _⟩
  | some a =>
    cases b with
    | none =>
      obtain rfl : q = none := hb
      have HA := Aside0.mk ha
      obtain ⟨ba, _, _, rfl, _⟩ := IsN.node ha
      clear ha
      go_enter Try.func66, Try.ntmps66
      go_wp2
      go_ret
      exact ⟨_, rfl, HA.out, Below.refl _ _⟩
    | some b => exact joins_string _ a b p q w (Nat.le_refl _) ha hb hs

end Go.Proofs.Ytlopceimlipemaa.Rope
