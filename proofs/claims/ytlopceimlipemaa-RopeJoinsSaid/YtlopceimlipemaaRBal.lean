import Derived.Test.YtlopceimlipemaaRFork
import Derived.Deep.RegionHeld3
import Derived.Deep.QuietTactic
import Derived.BigQuiet
import Derived.WalkKit
namespace Go.Proofs.Ytlopceimlipemaa.Rope
open Go.RowKit Go.Proofs.YtlopceimlipemaaW.PrintWords Go.Proofs.YtlopceimlipemaaW.PrintLast Go.Proofs.YtlopceimlipemaaW.PrintMore
set_option linter.unusedVariables false
set_option linter.unusedSimpArgs false

set_option maxRecDepth 100000 in
set_option maxHeartbeats 4000000 in
theorem bal1_int.calls (p q : Option Addr) (al ar b : Tr Int) (w : World) (ha : IsN K_int w p (Tr.fork al ar)) (hb : IsN K_int w q (b)) (hs : (Tr.fork al ar).len + (b).len ≤ 4611686018427387904) (hc : b.ht + 1 < (Tr.fork al ar).ht) (hd : ar.ht ≤ al.ht) :
    Calls Try.prog 71 #[.pointer p, .pointer q] w fun e w' => ∃ g, e = .returned (.pointer (some ⟨g, 0, none⟩)) ∧ IsN K_int w' (some ⟨g, 0, none⟩) (Tr.fork al (Tr.fork ar b)) ∧ Below w.heap.size w w' := by
  obtain ⟨ba, la, ra, rfl, a0, a1, a2, a3, hla, hra⟩ := ha.node
  obtain ⟨bb, _, _, rfl, b0, b1, _, _, _⟩ := hb.node
  obtain ⟨bl, _, _, rfl, l0, l1, _, _, _⟩ := hla.node
  obtain ⟨br, _, _, rfl, r0, r1, _, _, _⟩ := hra.node
  have z1 := ha.ht_le
  have z2 := hb.ht_le
  have HB := Aside0.mk hb
  have HLA := Aside0.mk hla
  have HRA := Aside0.mk hra
  clear ha hb hla hra
  obtain ⟨hta, ehta⟩ : ∃ n : Nat, n = (Tr.fork al ar).ht := ⟨_, rfl⟩
  rw [← ehta] at a1
  have d1 : decide ((b.ht : Int) + 1 < (hta : Int)) = true := by simp only [Tr.ht] at ehta hc; simp; omega
  have d2 : decide (ar.ht ≤ al.ht) = true := by simp; omega
  have z3 : hta ≤ 4611686018427387904 := by rw [ehta]; omega
  have z4 : b.ht ≤ 4611686018427387904 := by omega
  clear ehta hc hd z1 z2
  go_enter Try.func71, Try.ntmps71
  go_wp2_with fail
  go_quiet (fail)
  go_wp2_with fail
  refine world_any (w := w) (by repeat (first | exact Below.refl _ _ | apply pw_below_drewN | apply below_drew)) ?_
  intro w1 hB1
  go_region_held3 (fun w' => w'.cell? ⟨ba, 2, none⟩ = some (.pointer (some ⟨bl, 0, none⟩)) ∧ w'.cell? ⟨ba, 3, none⟩ = some (.pointer (some ⟨br, 0, none⟩)))
    (first | exact ⟨pw_cell_below hS (pw_cell_below hB1 a2), pw_cell_below hS (pw_cell_below hB1 a3)⟩ | exact ⟨pw_cell_below (below_drew (Below.refl _ _)) (pw_cell_below hB1 a2), pw_cell_below (below_drew (Below.refl _ _)) (pw_cell_below hB1 a3)⟩ | go_keep)
    ((first
      | (go_at_call 72; have hS := below_drew (Below.refl w1.heap.size w1); with_reducible refine (fork_int.calls _ _ ar b _ (IsN.below (below_step hB1 hS) HRA.out) (IsN.below (below_step hB1 hS) HB.out) (by simp only [Tr.len] at *; omega)).mono ?_; rintro e w' ⟨g1, rfl, hn1, hb1⟩; have hT1 := below_step hS hb1; clear hS; have hS := hT1)
      | (go_at_call 72; with_reducible refine (fork_int.calls _ _ al (.fork ar b) _ (IsN.below (below_step hB1 hS) HLA.out) (hn1) (by simp only [Tr.len] at *; omega)).mono ?_; rintro e w' ⟨g2, rfl, hn2, hb2⟩; have hT2 := below_step hS hb2; clear hS; have hS := hT2)))
  go_wp2
  go_ret
  exact ⟨_, rfl, hn2, below_step hB1 hS⟩

set_option maxRecDepth 100000 in
set_option maxHeartbeats 4000000 in
theorem bal2_int.calls (p q : Option Addr) (al rl rr b : Tr Int) (w : World) (ha : IsN K_int w p (Tr.fork al (Tr.fork rl rr))) (hb : IsN K_int w q (b)) (hs : (Tr.fork al (Tr.fork rl rr)).len + (b).len ≤ 4611686018427387904) (hc : b.ht + 1 < (Tr.fork al (Tr.fork rl rr)).ht) (hd : al.ht < (Tr.fork rl rr).ht) :
    Calls Try.prog 71 #[.pointer p, .pointer q] w fun e w' => ∃ g, e = .returned (.pointer (some ⟨g, 0, none⟩)) ∧ IsN K_int w' (some ⟨g, 0, none⟩) (Tr.fork (Tr.fork al rl) (Tr.fork rr b)) ∧ Below w.heap.size w w' := by
  obtain ⟨ba, la, ra, rfl, a0, a1, a2, a3, hla, hra⟩ := ha.node
  obtain ⟨bb, _, _, rfl, b0, b1, _, _, _⟩ := hb.node
  obtain ⟨bl, _, _, rfl, l0, l1, _, _, _⟩ := hla.node
  obtain ⟨br, x2, x3, rfl, r0, r1, r2, r3, hrl, hrr⟩ := hra.node
  have z1 := ha.ht_le
  have z2 := hb.ht_le
  have HB := Aside0.mk hb
  have HLA := Aside0.mk hla
  have HRL := Aside0.mk hrl
  have HRR := Aside0.mk hrr
  clear ha hb hla hra hrl hrr
  obtain ⟨hta, ehta⟩ : ∃ n : Nat, n = (Tr.fork al (Tr.fork rl rr)).ht := ⟨_, rfl⟩
  rw [← ehta] at a1
  obtain ⟨htr, ehtr⟩ : ∃ n : Nat, n = (Tr.fork rl rr).ht := ⟨_, rfl⟩
  rw [← ehtr] at r1
  have d1 : decide ((b.ht : Int) + 1 < (hta : Int)) = true := by simp only [Tr.ht] at ehta hc; simp; omega
  have d2 : decide (htr ≤ al.ht) = false := by rw [ehtr]; simp; omega
  have z3 : hta ≤ 4611686018427387904 := by rw [ehta]; omega
  have z4 : b.ht ≤ 4611686018427387904 := by omega
  clear ehta ehtr hc hd z1 z2
  go_enter Try.func71, Try.ntmps71
  go_wp2_with fail
  go_quiet (fail)
  go_wp2_with fail
  go_quiet (fail)
  go_wp2_with fail
  refine world_any (w := w) (by repeat (first | exact Below.refl _ _ | apply pw_below_drewN | apply below_drew)) ?_
  intro w1 hB1
  go_region_held3 (fun w' => w'.cell? ⟨ba, 2, none⟩ = some (.pointer (some ⟨bl, 0, none⟩)) ∧ w'.cell? ⟨ba, 3, none⟩ = some (.pointer (some ⟨br, 0, none⟩)) ∧ w'.cell? ⟨br, 2, none⟩ = some (.pointer x2) ∧ w'.cell? ⟨br, 3, none⟩ = some (.pointer x3))
    (first | exact ⟨pw_cell_below hS (pw_cell_below hB1 a2), pw_cell_below hS (pw_cell_below hB1 a3), pw_cell_below hS (pw_cell_below hB1 r2), pw_cell_below hS (pw_cell_below hB1 r3)⟩ | exact ⟨pw_cell_below (below_drew (Below.refl _ _)) (pw_cell_below hB1 a2), pw_cell_below (below_drew (Below.refl _ _)) (pw_cell_below hB1 a3), pw_cell_below (below_drew (Below.refl _ _)) (pw_cell_below hB1 r2), pw_cell_below (below_drew (Below.refl _ _)) (pw_cell_below hB1 r3)⟩ | go_keep)
    ((first
      | (go_at_call 72; have hS := below_drew (Below.refl w1.heap.size w1); with_reducible refine (fork_int.calls _ _ al rl _ (IsN.below (below_step hB1 hS) HLA.out) (IsN.below (below_step hB1 hS) HRL.out) (by simp only [Tr.len] at *; omega)).mono ?_; rintro e w' ⟨g1, rfl, hn1, hb1⟩; have hT1 := below_step hS hb1; clear hS; have hS := hT1)
      | (go_at_call 72; with_reducible refine (fork_int.calls _ _ rr b _ (IsN.below (below_step hB1 hS) HRR.out) (IsN.below (below_step hB1 hS) HB.out) (by simp only [Tr.len] at *; omega)).mono ?_; rintro e w' ⟨g2, rfl, hn2, hb2⟩; have hT2 := below_step hS hb2; clear hS; have hS := hT2)
      | (go_at_call 72; with_reducible refine (fork_int.calls _ _ (.fork al rl) (.fork rr b) _ (IsN.below hb2 hn1) (hn2) (by simp only [Tr.len] at *; omega)).mono ?_; rintro e w' ⟨g3, rfl, hn3, hb3⟩; have hT3 := below_step hS hb3; clear hS; have hS := hT3)))
  go_wp2
  go_ret
  exact ⟨_, rfl, hn3, below_step hB1 hS⟩

set_option maxRecDepth 100000 in
set_option maxHeartbeats 4000000 in
theorem bal3_int.calls (p q : Option Addr) (a bl br : Tr Int) (w : World) (ha : IsN K_int w p (a)) (hb : IsN K_int w q (Tr.fork bl br)) (hs : (a).len + (Tr.fork bl br).len ≤ 4611686018427387904) (hc : a.ht + 1 < (Tr.fork bl br).ht) (hd : bl.ht ≤ br.ht) :
    Calls Try.prog 71 #[.pointer p, .pointer q] w fun e w' => ∃ g, e = .returned (.pointer (some ⟨g, 0, none⟩)) ∧ IsN K_int w' (some ⟨g, 0, none⟩) (Tr.fork (Tr.fork a bl) br) ∧ Below w.heap.size w w' := by
  obtain ⟨ba, _, _, rfl, a0, a1, _, _, _⟩ := ha.node
  obtain ⟨bb, lb, rb, rfl, b0, b1, b2, b3, hlb, hrb⟩ := hb.node
  obtain ⟨cl, _, _, rfl, l0, l1, _, _, _⟩ := hlb.node
  obtain ⟨cr, _, _, rfl, r0, r1, _, _, _⟩ := hrb.node
  have z1 := ha.ht_le
  have z2 := hb.ht_le
  have HA := Aside0.mk ha
  have HLB := Aside0.mk hlb
  have HRB := Aside0.mk hrb
  clear ha hb hlb hrb
  obtain ⟨htb, ehtb⟩ : ∃ n : Nat, n = (Tr.fork bl br).ht := ⟨_, rfl⟩
  rw [← ehtb] at b1
  have d0 : decide ((htb : Int) + 1 < (a.ht : Int)) = false := by simp only [Tr.ht] at ehtb hc; simp; omega
  have d1 : decide ((a.ht : Int) + 1 < (htb : Int)) = true := by simp only [Tr.ht] at ehtb hc; simp; omega
  have d2 : decide (bl.ht ≤ br.ht) = true := by simp; omega
  have z3 : htb ≤ 4611686018427387904 := by rw [ehtb]; omega
  have z4 : a.ht ≤ 4611686018427387904 := by omega
  clear ehtb hc hd z1 z2
  go_enter Try.func71, Try.ntmps71
  go_wp2_with fail
  go_quiet (fail)
  go_wp2_with fail
  go_quiet (fail)
  go_wp2_with fail
  go_quiet (fail)
  go_wp2_with fail
  refine world_any (w := w) (by repeat (first | exact Below.refl _ _ | apply pw_below_drewN | apply below_drew)) ?_
  intro w1 hB1
  go_region_held3 (fun w' => w'.cell? ⟨bb, 2, none⟩ = some (.pointer (some ⟨cl, 0, none⟩)) ∧ w'.cell? ⟨bb, 3, none⟩ = some (.pointer (some ⟨cr, 0, none⟩)))
    (first | exact ⟨pw_cell_below hS (pw_cell_below hB1 b2), pw_cell_below hS (pw_cell_below hB1 b3)⟩ | exact ⟨pw_cell_below (below_drew (Below.refl _ _)) (pw_cell_below hB1 b2), pw_cell_below (below_drew (Below.refl _ _)) (pw_cell_below hB1 b3)⟩ | go_keep)
    ((first
      | (go_at_call 72; have hS := below_drew (Below.refl w1.heap.size w1); with_reducible refine (fork_int.calls _ _ a bl _ (IsN.below (below_step hB1 hS) HA.out) (IsN.below (below_step hB1 hS) HLB.out) (by simp only [Tr.len] at *; omega)).mono ?_; rintro e w' ⟨g1, rfl, hn1, hb1⟩; have hT1 := below_step hS hb1; clear hS; have hS := hT1)
      | (go_at_call 72; with_reducible refine (fork_int.calls _ _ (.fork a bl) br _ (hn1) (IsN.below (below_step hB1 hS) HRB.out) (by simp only [Tr.len] at *; omega)).mono ?_; rintro e w' ⟨g2, rfl, hn2, hb2⟩; have hT2 := below_step hS hb2; clear hS; have hS := hT2)))
  go_wp2
  go_ret
  exact ⟨_, rfl, hn2, below_step hB1 hS⟩

set_option maxRecDepth 100000 in
set_option maxHeartbeats 4000000 in
theorem bal4_int.calls (p q : Option Addr) (a ll lr br : Tr Int) (w : World) (ha : IsN K_int w p (a)) (hb : IsN K_int w q (Tr.fork (Tr.fork ll lr) br)) (hs : (a).len + (Tr.fork (Tr.fork ll lr) br).len ≤ 4611686018427387904) (hc : a.ht + 1 < (Tr.fork (Tr.fork ll lr) br).ht) (hd : br.ht < (Tr.fork ll lr).ht) :
    Calls Try.prog 71 #[.pointer p, .pointer q] w fun e w' => ∃ g, e = .returned (.pointer (some ⟨g, 0, none⟩)) ∧ IsN K_int w' (some ⟨g, 0, none⟩) (Tr.fork (Tr.fork a ll) (Tr.fork lr br)) ∧ Below w.heap.size w w' := by
  obtain ⟨ba, _, _, rfl, a0, a1, _, _, _⟩ := ha.node
  obtain ⟨bb, lb, rb, rfl, b0, b1, b2, b3, hlb, hrb⟩ := hb.node
  obtain ⟨cl, x2, x3, rfl, l0, l1, l2, l3, hll, hlr⟩ := hlb.node
  obtain ⟨cr, _, _, rfl, r0, r1, _, _, _⟩ := hrb.node
  have z1 := ha.ht_le
  have z2 := hb.ht_le
  have HA := Aside0.mk ha
  have HLL := Aside0.mk hll
  have HLR := Aside0.mk hlr
  have HRB := Aside0.mk hrb
  clear ha hb hlb hrb hll hlr
  obtain ⟨htb, ehtb⟩ : ∃ n : Nat, n = (Tr.fork (Tr.fork ll lr) br).ht := ⟨_, rfl⟩
  rw [← ehtb] at b1
  obtain ⟨htl, ehtl⟩ : ∃ n : Nat, n = (Tr.fork ll lr).ht := ⟨_, rfl⟩
  rw [← ehtl] at l1
  have d0 : decide ((htb : Int) + 1 < (a.ht : Int)) = false := by simp only [Tr.ht] at ehtb hc; simp; omega
  have d1 : decide ((a.ht : Int) + 1 < (htb : Int)) = true := by simp only [Tr.ht] at ehtb hc; simp; omega
  have d2 : decide (htl ≤ br.ht) = false := by rw [ehtl]; simp; omega
  have z3 : htb ≤ 4611686018427387904 := by rw [ehtb]; omega
  have z4 : a.ht ≤ 4611686018427387904 := by omega
  clear ehtb ehtl hc hd z1 z2
  go_enter Try.func71, Try.ntmps71
  go_wp2_with fail
  go_quiet (fail)
  go_wp2_with fail
  go_quiet (fail)
  go_wp2_with fail
  go_quiet (fail)
  go_wp2_with fail
  go_quiet (fail)
  go_wp2_with fail
  refine world_any (w := w) (by repeat (first | exact Below.refl _ _ | apply pw_below_drewN | apply below_drew)) ?_
  intro w1 hB1
  go_region_held3 (fun w' => w'.cell? ⟨bb, 2, none⟩ = some (.pointer (some ⟨cl, 0, none⟩)) ∧ w'.cell? ⟨bb, 3, none⟩ = some (.pointer (some ⟨cr, 0, none⟩)) ∧ w'.cell? ⟨cl, 2, none⟩ = some (.pointer x2) ∧ w'.cell? ⟨cl, 3, none⟩ = some (.pointer x3))
    (first | exact ⟨pw_cell_below hS (pw_cell_below hB1 b2), pw_cell_below hS (pw_cell_below hB1 b3), pw_cell_below hS (pw_cell_below hB1 l2), pw_cell_below hS (pw_cell_below hB1 l3)⟩ | exact ⟨pw_cell_below (below_drew (Below.refl _ _)) (pw_cell_below hB1 b2), pw_cell_below (below_drew (Below.refl _ _)) (pw_cell_below hB1 b3), pw_cell_below (below_drew (Below.refl _ _)) (pw_cell_below hB1 l2), pw_cell_below (below_drew (Below.refl _ _)) (pw_cell_below hB1 l3)⟩ | go_keep)
    ((first
      | (go_at_call 72; have hS := below_drew (Below.refl w1.heap.size w1); with_reducible refine (fork_int.calls _ _ a ll _ (IsN.below (below_step hB1 hS) HA.out) (IsN.below (below_step hB1 hS) HLL.out) (by simp only [Tr.len] at *; omega)).mono ?_; rintro e w' ⟨g1, rfl, hn1, hb1⟩; have hT1 := below_step hS hb1; clear hS; have hS := hT1)
      | (go_at_call 72; with_reducible refine (fork_int.calls _ _ lr br _ (IsN.below (below_step hB1 hS) HLR.out) (IsN.below (below_step hB1 hS) HRB.out) (by simp only [Tr.len] at *; omega)).mono ?_; rintro e w' ⟨g2, rfl, hn2, hb2⟩; have hT2 := below_step hS hb2; clear hS; have hS := hT2)
      | (go_at_call 72; with_reducible refine (fork_int.calls _ _ (.fork a ll) (.fork lr br) _ (IsN.below hb2 hn1) (hn2) (by simp only [Tr.len] at *; omega)).mono ?_; rintro e w' ⟨g3, rfl, hn3, hb3⟩; have hT3 := below_step hS hb3; clear hS; have hS := hT3)))
  go_wp2
  go_ret
  exact ⟨_, rfl, hn3, below_step hB1 hS⟩

set_option maxRecDepth 100000 in
set_option maxHeartbeats 4000000 in
theorem bal5_int.calls (p q : Option Addr) (a b : Tr Int) (w : World) (ha : IsN K_int w p (a)) (hb : IsN K_int w q (b)) (hs : (a).len + (b).len ≤ 4611686018427387904) (hc : ¬ b.ht + 1 < a.ht) (hd : ¬ a.ht + 1 < b.ht) :
    Calls Try.prog 71 #[.pointer p, .pointer q] w fun e w' => ∃ g, e = .returned (.pointer (some ⟨g, 0, none⟩)) ∧ IsN K_int w' (some ⟨g, 0, none⟩) (Tr.fork a b) ∧ Below w.heap.size w w' := by
  obtain ⟨ba, _, _, rfl, a0, a1, _, _, _⟩ := ha.node
  obtain ⟨bb, _, _, rfl, b0, b1, _, _, _⟩ := hb.node
  have z1 := ha.ht_le
  have z2 := hb.ht_le
  have HA := Aside0.mk ha
  have HB := Aside0.mk hb
  clear ha hb
  have d0 : decide ((b.ht : Int) + 1 < (a.ht : Int)) = false := by simp; omega
  have d1 : decide ((a.ht : Int) + 1 < (b.ht : Int)) = false := by simp; omega
  have z3 : b.ht ≤ 4611686018427387904 := by omega
  have z4 : a.ht ≤ 4611686018427387904 := by omega
  clear hc hd z1 z2
  go_enter Try.func71, Try.ntmps71
  go_wp2_with fail
  go_quiet (fail)
  go_wp2_with fail
  go_quiet (fail)
  go_wp2_with fail
  go_quiet (fail)
  go_wp2_with fail
  go_quiet (fail)
  go_wp2_with fail
  refine calls_world (w := w) (by repeat (first | exact Below.refl _ _ | apply pw_below_drewN | apply below_drew)) ?_
  intro w1 hB1
  refine (fork_int.calls _ _ a b _ (HA.out.below hB1) (HB.out.below hB1) hs).mono ?_
  rintro e w' ⟨g1, rfl, hn1, hb1⟩
  go_wp2_with fail
  go_ret
  exact ⟨_, rfl, hn1, below_step hB1 hb1⟩

theorem bal_int.calls (p q : Option Addr) (a b : Tr Int) (w : World) (ha : IsN K_int w p a) (hb : IsN K_int w q b) (hs : a.len + b.len ≤ 4611686018427387904) :
    Calls Try.prog 71 #[.pointer p, .pointer q] w fun e w' => ∃ g, e = .returned (.pointer (some ⟨g, 0, none⟩)) ∧ IsN K_int w' (some ⟨g, 0, none⟩) (Tr.bal a b) ∧ Below w.heap.size w w' := by
  unfold Tr.bal
  by_cases hc : b.ht + 1 < a.ht
  · rw [if_pos hc]
    cases a with
    | leaf xs => exact absurd hc (by simp [Tr.ht])
    | fork al ar =>
      simp only
      by_cases hd : ar.ht ≤ al.ht
      · rw [if_pos hd]; exact bal1_int.calls p q al ar b w ha hb hs hc hd
      · rw [if_neg hd]
        cases ar with
        | leaf xs => exact absurd (Nat.le_trans (by simp [Tr.ht]) (Tr.ht_pos al)) hd
        | fork rl rr => exact bal2_int.calls p q al rl rr b w ha hb hs hc (by omega)
  · rw [if_neg hc]
    by_cases hd : a.ht + 1 < b.ht
    · rw [if_pos hd]
      cases b with
      | leaf xs => exact absurd hd (by simp [Tr.ht])
      | fork bl br =>
        simp only
        by_cases he : bl.ht ≤ br.ht
        · rw [if_pos he]; exact bal3_int.calls p q a bl br w ha hb hs hd he
        · rw [if_neg he]
          cases bl with
          | leaf xs => exact absurd (Nat.le_trans (by simp [Tr.ht]) (Tr.ht_pos br)) he
          | fork ll lr => exact bal4_int.calls p q a ll lr br w ha hb hs hd (by omega)
    · rw [if_neg hd]; exact bal5_int.calls p q a b w ha hb hs hc hd

end Go.Proofs.Ytlopceimlipemaa.Rope

namespace Go.Proofs.Ytlopceimlipemaa.Rope
open Go.RowKit Go.Proofs.YtlopceimlipemaaW.PrintWords Go.Proofs.YtlopceimlipemaaW.PrintLast Go.Proofs.YtlopceimlipemaaW.PrintMore
set_option linter.unusedVariables false
set_option linter.unusedSimpArgs false

set_option maxRecDepth 100000 in
set_option maxHeartbeats 4000000 in
theorem bal1_string.calls (p q : Option Addr) (al ar b : Tr ByteArray) (w : World) (ha : IsN K_string w p (Tr.fork al ar)) (hb : IsN K_string w q (b)) (hs : (Tr.fork al ar).len + (b).len ≤ 4611686018427387904) (hc : b.ht + 1 < (Tr.fork al ar).ht) (hd : ar.ht ≤ al.ht) :
    Calls Try.prog 78 #[.pointer p, .pointer q] w fun e w' => ∃ g, e = .returned (.pointer (some ⟨g, 0, none⟩)) ∧ IsN K_string w' (some ⟨g, 0, none⟩) (Tr.fork al (Tr.fork ar b)) ∧ Below w.heap.size w w' := by
  obtain ⟨ba, la, ra, rfl, a0, a1, a2, a3, hla, hra⟩ := ha.node
  obtain ⟨bb, _, _, rfl, b0, b1, _, _, _⟩ := hb.node
  obtain ⟨bl, _, _, rfl, l0, l1, _, _, _⟩ := hla.node
  obtain ⟨br, _, _, rfl, r0, r1, _, _, _⟩ := hra.node
  have z1 := ha.ht_le
  have z2 := hb.ht_le
  have HB := Aside0.mk hb
  have HLA := Aside0.mk hla
  have HRA := Aside0.mk hra
  clear ha hb hla hra
  obtain ⟨hta, ehta⟩ : ∃ n : Nat, n = (Tr.fork al ar).ht := ⟨_, rfl⟩
  rw [← ehta] at a1
  have d1 : decide ((b.ht : Int) + 1 < (hta : Int)) = true := by simp only [Tr.ht] at ehta hc; simp; omega
  have d2 : decide (ar.ht ≤ al.ht) = true := by simp; omega
  have z3 : hta ≤ 4611686018427387904 := by rw [ehta]; omega
  have z4 : b.ht ≤ 4611686018427387904 := by omega
  clear ehta hc hd z1 z2
  go_enter Try.func78, Try.ntmps78
  go_wp2_with fail
  go_quiet (fail)
  go_wp2_with fail
  refine world_any (w := w) (by repeat (first | exact Below.refl _ _ | apply pw_below_drewN | apply below_drew)) ?_
  intro w1 hB1
  go_region_held3 (fun w' => w'.cell? ⟨ba, 2, none⟩ = some (.pointer (some ⟨bl, 0, none⟩)) ∧ w'.cell? ⟨ba, 3, none⟩ = some (.pointer (some ⟨br, 0, none⟩)))
    (first | exact ⟨pw_cell_below hS (pw_cell_below hB1 a2), pw_cell_below hS (pw_cell_below hB1 a3)⟩ | exact ⟨pw_cell_below (below_drew (Below.refl _ _)) (pw_cell_below hB1 a2), pw_cell_below (below_drew (Below.refl _ _)) (pw_cell_below hB1 a3)⟩ | go_keep)
    ((first
      | (go_at_call 79; have hS := below_drew (Below.refl w1.heap.size w1); with_reducible refine (fork_string.calls _ _ ar b _ (IsN.below (below_step hB1 hS) HRA.out) (IsN.below (below_step hB1 hS) HB.out) (by simp only [Tr.len] at *; omega)).mono ?_; rintro e w' ⟨g1, rfl, hn1, hb1⟩; have hT1 := below_step hS hb1; clear hS; have hS := hT1)
      | (go_at_call 79; with_reducible refine (fork_string.calls _ _ al (.fork ar b) _ (IsN.below (below_step hB1 hS) HLA.out) (hn1) (by simp only [Tr.len] at *; omega)).mono ?_; rintro e w' ⟨g2, rfl, hn2, hb2⟩; have hT2 := below_step hS hb2; clear hS; have hS := hT2)))
  go_wp2
  go_ret
  exact ⟨_, rfl, hn2, below_step hB1 hS⟩

set_option maxRecDepth 100000 in
set_option maxHeartbeats 4000000 in
theorem bal2_string.calls (p q : Option Addr) (al rl rr b : Tr ByteArray) (w : World) (ha : IsN K_string w p (Tr.fork al (Tr.fork rl rr))) (hb : IsN K_string w q (b)) (hs : (Tr.fork al (Tr.fork rl rr)).len + (b).len ≤ 4611686018427387904) (hc : b.ht + 1 < (Tr.fork al (Tr.fork rl rr)).ht) (hd : al.ht < (Tr.fork rl rr).ht) :
    Calls Try.prog 78 #[.pointer p, .pointer q] w fun e w' => ∃ g, e = .returned (.pointer (some ⟨g, 0, none⟩)) ∧ IsN K_string w' (some ⟨g, 0, none⟩) (Tr.fork (Tr.fork al rl) (Tr.fork rr b)) ∧ Below w.heap.size w w' := by
  obtain ⟨ba, la, ra, rfl, a0, a1, a2, a3, hla, hra⟩ := ha.node
  obtain ⟨bb, _, _, rfl, b0, b1, _, _, _⟩ := hb.node
  obtain ⟨bl, _, _, rfl, l0, l1, _, _, _⟩ := hla.node
  obtain ⟨br, x2, x3, rfl, r0, r1, r2, r3, hrl, hrr⟩ := hra.node
  have z1 := ha.ht_le
  have z2 := hb.ht_le
  have HB := Aside0.mk hb
  have HLA := Aside0.mk hla
  have HRL := Aside0.mk hrl
  have HRR := Aside0.mk hrr
  clear ha hb hla hra hrl hrr
  obtain ⟨hta, ehta⟩ : ∃ n : Nat, n = (Tr.fork al (Tr.fork rl rr)).ht := ⟨_, rfl⟩
  rw [← ehta] at a1
  obtain ⟨htr, ehtr⟩ : ∃ n : Nat, n = (Tr.fork rl rr).ht := ⟨_, rfl⟩
  rw [← ehtr] at r1
  have d1 : decide ((b.ht : Int) + 1 < (hta : Int)) = true := by simp only [Tr.ht] at ehta hc; simp; omega
  have d2 : decide (htr ≤ al.ht) = false := by rw [ehtr]; simp; omega
  have z3 : hta ≤ 4611686018427387904 := by rw [ehta]; omega
  have z4 : b.ht ≤ 4611686018427387904 := by omega
  clear ehta ehtr hc hd z1 z2
  go_enter Try.func78, Try.ntmps78
  go_wp2_with fail
  go_quiet (fail)
  go_wp2_with fail
  go_quiet (fail)
  go_wp2_with fail
  refine world_any (w := w) (by repeat (first | exact Below.refl _ _ | apply pw_below_drewN | apply below_drew)) ?_
  intro w1 hB1
  go_region_held3 (fun w' => w'.cell? ⟨ba, 2, none⟩ = some (.pointer (some ⟨bl, 0, none⟩)) ∧ w'.cell? ⟨ba, 3, none⟩ = some (.pointer (some ⟨br, 0, none⟩)) ∧ w'.cell? ⟨br, 2, none⟩ = some (.pointer x2) ∧ w'.cell? ⟨br, 3, none⟩ = some (.pointer x3))
    (first | exact ⟨pw_cell_below hS (pw_cell_below hB1 a2), pw_cell_below hS (pw_cell_below hB1 a3), pw_cell_below hS (pw_cell_below hB1 r2), pw_cell_below hS (pw_cell_below hB1 r3)⟩ | exact ⟨pw_cell_below (below_drew (Below.refl _ _)) (pw_cell_below hB1 a2), pw_cell_below (below_drew (Below.refl _ _)) (pw_cell_below hB1 a3), pw_cell_below (below_drew (Below.refl _ _)) (pw_cell_below hB1 r2), pw_cell_below (below_drew (Below.refl _ _)) (pw_cell_below hB1 r3)⟩ | go_keep)
    ((first
      | (go_at_call 79; have hS := below_drew (Below.refl w1.heap.size w1); with_reducible refine (fork_string.calls _ _ al rl _ (IsN.below (below_step hB1 hS) HLA.out) (IsN.below (below_step hB1 hS) HRL.out) (by simp only [Tr.len] at *; omega)).mono ?_; rintro e w' ⟨g1, rfl, hn1, hb1⟩; have hT1 := below_step hS hb1; clear hS; have hS := hT1)
      | (go_at_call 79; with_reducible refine (fork_string.calls _ _ rr b _ (IsN.below (below_step hB1 hS) HRR.out) (IsN.below (below_step hB1 hS) HB.out) (by simp only [Tr.len] at *; omega)).mono ?_; rintro e w' ⟨g2, rfl, hn2, hb2⟩; have hT2 := below_step hS hb2; clear hS; have hS := hT2)
      | (go_at_call 79; with_reducible refine (fork_string.calls _ _ (.fork al rl) (.fork rr b) _ (IsN.below hb2 hn1) (hn2) (by simp only [Tr.len] at *; omega)).mono ?_; rintro e w' ⟨g3, rfl, hn3, hb3⟩; have hT3 := below_step hS hb3; clear hS; have hS := hT3)))
  go_wp2
  go_ret
  exact ⟨_, rfl, hn3, below_step hB1 hS⟩

set_option maxRecDepth 100000 in
set_option maxHeartbeats 4000000 in
theorem bal3_string.calls (p q : Option Addr) (a bl br : Tr ByteArray) (w : World) (ha : IsN K_string w p (a)) (hb : IsN K_string w q (Tr.fork bl br)) (hs : (a).len + (Tr.fork bl br).len ≤ 4611686018427387904) (hc : a.ht + 1 < (Tr.fork bl br).ht) (hd : bl.ht ≤ br.ht) :
    Calls Try.prog 78 #[.pointer p, .pointer q] w fun e w' => ∃ g, e = .returned (.pointer (some ⟨g, 0, none⟩)) ∧ IsN K_string w' (some ⟨g, 0, none⟩) (Tr.fork (Tr.fork a bl) br) ∧ Below w.heap.size w w' := by
  obtain ⟨ba, _, _, rfl, a0, a1, _, _, _⟩ := ha.node
  obtain ⟨bb, lb, rb, rfl, b0, b1, b2, b3, hlb, hrb⟩ := hb.node
  obtain ⟨cl, _, _, rfl, l0, l1, _, _, _⟩ := hlb.node
  obtain ⟨cr, _, _, rfl, r0, r1, _, _, _⟩ := hrb.node
  have z1 := ha.ht_le
  have z2 := hb.ht_le
  have HA := Aside0.mk ha
  have HLB := Aside0.mk hlb
  have HRB := Aside0.mk hrb
  clear ha hb hlb hrb
  obtain ⟨htb, ehtb⟩ : ∃ n : Nat, n = (Tr.fork bl br).ht := ⟨_, rfl⟩
  rw [← ehtb] at b1
  have d0 : decide ((htb : Int) + 1 < (a.ht : Int)) = false := by simp only [Tr.ht] at ehtb hc; simp; omega
  have d1 : decide ((a.ht : Int) + 1 < (htb : Int)) = true := by simp only [Tr.ht] at ehtb hc; simp; omega
  have d2 : decide (bl.ht ≤ br.ht) = true := by simp; omega
  have z3 : htb ≤ 4611686018427387904 := by rw [ehtb]; omega
  have z4 : a.ht ≤ 4611686018427387904 := by omega
  clear ehtb hc hd z1 z2
  go_enter Try.func78, Try.ntmps78
  go_wp2_with fail
  go_quiet (fail)
  go_wp2_with fail
  go_quiet (fail)
  go_wp2_with fail
  go_quiet (fail)
  go_wp2_with fail
  refine world_any (w := w) (by repeat (first | exact Below.refl _ _ | apply pw_below_drewN | apply below_drew)) ?_
  intro w1 hB1
  go_region_held3 (fun w' => w'.cell? ⟨bb, 2, none⟩ = some (.pointer (some ⟨cl, 0, none⟩)) ∧ w'.cell? ⟨bb, 3, none⟩ = some (.pointer (some ⟨cr, 0, none⟩)))
    (first | exact ⟨pw_cell_below hS (pw_cell_below hB1 b2), pw_cell_below hS (pw_cell_below hB1 b3)⟩ | exact ⟨pw_cell_below (below_drew (Below.refl _ _)) (pw_cell_below hB1 b2), pw_cell_below (below_drew (Below.refl _ _)) (pw_cell_below hB1 b3)⟩ | go_keep)
    ((first
      | (go_at_call 79; have hS := below_drew (Below.refl w1.heap.size w1); with_reducible refine (fork_string.calls _ _ a bl _ (IsN.below (below_step hB1 hS) HA.out) (IsN.below (below_step hB1 hS) HLB.out) (by simp only [Tr.len] at *; omega)).mono ?_; rintro e w' ⟨g1, rfl, hn1, hb1⟩; have hT1 := below_step hS hb1; clear hS; have hS := hT1)
      | (go_at_call 79; with_reducible refine (fork_string.calls _ _ (.fork a bl) br _ (hn1) (IsN.below (below_step hB1 hS) HRB.out) (by simp only [Tr.len] at *; omega)).mono ?_; rintro e w' ⟨g2, rfl, hn2, hb2⟩; have hT2 := below_step hS hb2; clear hS; have hS := hT2)))
  go_wp2
  go_ret
  exact ⟨_, rfl, hn2, below_step hB1 hS⟩

set_option maxRecDepth 100000 in
set_option maxHeartbeats 4000000 in
theorem bal4_string.calls (p q : Option Addr) (a ll lr br : Tr ByteArray) (w : World) (ha : IsN K_string w p (a)) (hb : IsN K_string w q (Tr.fork (Tr.fork ll lr) br)) (hs : (a).len + (Tr.fork (Tr.fork ll lr) br).len ≤ 4611686018427387904) (hc : a.ht + 1 < (Tr.fork (Tr.fork ll lr) br).ht) (hd : br.ht < (Tr.fork ll lr).ht) :
    Calls Try.prog 78 #[.pointer p, .pointer q] w fun e w' => ∃ g, e = .returned (.pointer (some ⟨g, 0, none⟩)) ∧ IsN K_string w' (some ⟨g, 0, none⟩) (Tr.fork (Tr.fork a ll) (Tr.fork lr br)) ∧ Below w.heap.size w w' := by
  obtain ⟨ba, _, _, rfl, a0, a1, _, _, _⟩ := ha.node
  obtain ⟨bb, lb, rb, rfl, b0, b1, b2, b3, hlb, hrb⟩ := hb.node
  obtain ⟨cl, x2, x3, rfl, l0, l1, l2, l3, hll, hlr⟩ := hlb.node
  obtain ⟨cr, _, _, rfl, r0, r1, _, _, _⟩ := hrb.node
  have z1 := ha.ht_le
  have z2 := hb.ht_le
  have HA := Aside0.mk ha
  have HLL := Aside0.mk hll
  have HLR := Aside0.mk hlr
  have HRB := Aside0.mk hrb
  clear ha hb hlb hrb hll hlr
  obtain ⟨htb, ehtb⟩ : ∃ n : Nat, n = (Tr.fork (Tr.fork ll lr) br).ht := ⟨_, rfl⟩
  rw [← ehtb] at b1
  obtain ⟨htl, ehtl⟩ : ∃ n : Nat, n = (Tr.fork ll lr).ht := ⟨_, rfl⟩
  rw [← ehtl] at l1
  have d0 : decide ((htb : Int) + 1 < (a.ht : Int)) = false := by simp only [Tr.ht] at ehtb hc; simp; omega
  have d1 : decide ((a.ht : Int) + 1 < (htb : Int)) = true := by simp only [Tr.ht] at ehtb hc; simp; omega
  have d2 : decide (htl ≤ br.ht) = false := by rw [ehtl]; simp; omega
  have z3 : htb ≤ 4611686018427387904 := by rw [ehtb]; omega
  have z4 : a.ht ≤ 4611686018427387904 := by omega
  clear ehtb ehtl hc hd z1 z2
  go_enter Try.func78, Try.ntmps78
  go_wp2_with fail
  go_quiet (fail)
  go_wp2_with fail
  go_quiet (fail)
  go_wp2_with fail
  go_quiet (fail)
  go_wp2_with fail
  go_quiet (fail)
  go_wp2_with fail
  refine world_any (w := w) (by repeat (first | exact Below.refl _ _ | apply pw_below_drewN | apply below_drew)) ?_
  intro w1 hB1
  go_region_held3 (fun w' => w'.cell? ⟨bb, 2, none⟩ = some (.pointer (some ⟨cl, 0, none⟩)) ∧ w'.cell? ⟨bb, 3, none⟩ = some (.pointer (some ⟨cr, 0, none⟩)) ∧ w'.cell? ⟨cl, 2, none⟩ = some (.pointer x2) ∧ w'.cell? ⟨cl, 3, none⟩ = some (.pointer x3))
    (first | exact ⟨pw_cell_below hS (pw_cell_below hB1 b2), pw_cell_below hS (pw_cell_below hB1 b3), pw_cell_below hS (pw_cell_below hB1 l2), pw_cell_below hS (pw_cell_below hB1 l3)⟩ | exact ⟨pw_cell_below (below_drew (Below.refl _ _)) (pw_cell_below hB1 b2), pw_cell_below (below_drew (Below.refl _ _)) (pw_cell_below hB1 b3), pw_cell_below (below_drew (Below.refl _ _)) (pw_cell_below hB1 l2), pw_cell_below (below_drew (Below.refl _ _)) (pw_cell_below hB1 l3)⟩ | go_keep)
    ((first
      | (go_at_call 79; have hS := below_drew (Below.refl w1.heap.size w1); with_reducible refine (fork_string.calls _ _ a ll _ (IsN.below (below_step hB1 hS) HA.out) (IsN.below (below_step hB1 hS) HLL.out) (by simp only [Tr.len] at *; omega)).mono ?_; rintro e w' ⟨g1, rfl, hn1, hb1⟩; have hT1 := below_step hS hb1; clear hS; have hS := hT1)
      | (go_at_call 79; with_reducible refine (fork_string.calls _ _ lr br _ (IsN.below (below_step hB1 hS) HLR.out) (IsN.below (below_step hB1 hS) HRB.out) (by simp only [Tr.len] at *; omega)).mono ?_; rintro e w' ⟨g2, rfl, hn2, hb2⟩; have hT2 := below_step hS hb2; clear hS; have hS := hT2)
      | (go_at_call 79; with_reducible refine (fork_string.calls _ _ (.fork a ll) (.fork lr br) _ (IsN.below hb2 hn1) (hn2) (by simp only [Tr.len] at *; omega)).mono ?_; rintro e w' ⟨g3, rfl, hn3, hb3⟩; have hT3 := below_step hS hb3; clear hS; have hS := hT3)))
  go_wp2
  go_ret
  exact ⟨_, rfl, hn3, below_step hB1 hS⟩

set_option maxRecDepth 100000 in
set_option maxHeartbeats 4000000 in
theorem bal5_string.calls (p q : Option Addr) (a b : Tr ByteArray) (w : World) (ha : IsN K_string w p (a)) (hb : IsN K_string w q (b)) (hs : (a).len + (b).len ≤ 4611686018427387904) (hc : ¬ b.ht + 1 < a.ht) (hd : ¬ a.ht + 1 < b.ht) :
    Calls Try.prog 78 #[.pointer p, .pointer q] w fun e w' => ∃ g, e = .returned (.pointer (some ⟨g, 0, none⟩)) ∧ IsN K_string w' (some ⟨g, 0, none⟩) (Tr.fork a b) ∧ Below w.heap.size w w' := by
  obtain ⟨ba, _, _, rfl, a0, a1, _, _, _⟩ := ha.node
  obtain ⟨bb, _, _, rfl, b0, b1, _, _, _⟩ := hb.node
  have z1 := ha.ht_le
  have z2 := hb.ht_le
  have HA := Aside0.mk ha
  have HB := Aside0.mk hb
  clear ha hb
  have d0 : decide ((b.ht : Int) + 1 < (a.ht : Int)) = false := by simp; omega
  have d1 : decide ((a.ht : Int) + 1 < (b.ht : Int)) = false := by simp; omega
  have z3 : b.ht ≤ 4611686018427387904 := by omega
  have z4 : a.ht ≤ 4611686018427387904 := by omega
  clear hc hd z1 z2
  go_enter Try.func78, Try.ntmps78
  go_wp2_with fail
  go_quiet (fail)
  go_wp2_with fail
  go_quiet (fail)
  go_wp2_with fail
  go_quiet (fail)
  go_wp2_with fail
  go_quiet (fail)
  go_wp2_with fail
  refine calls_world (w := w) (by repeat (first | exact Below.refl _ _ | apply pw_below_drewN | apply below_drew)) ?_
  intro w1 hB1
  refine (fork_string.calls _ _ a b _ (HA.out.below hB1) (HB.out.below hB1) hs).mono ?_
  rintro e w' ⟨g1, rfl, hn1, hb1⟩
  go_wp2_with fail
  go_ret
  exact ⟨_, rfl, hn1, below_step hB1 hb1⟩

theorem bal_string.calls (p q : Option Addr) (a b : Tr ByteArray) (w : World) (ha : IsN K_string w p a) (hb : IsN K_string w q b) (hs : a.len + b.len ≤ 4611686018427387904) :
    Calls Try.prog 78 #[.pointer p, .pointer q] w fun e w' => ∃ g, e = .returned (.pointer (some ⟨g, 0, none⟩)) ∧ IsN K_string w' (some ⟨g, 0, none⟩) (Tr.bal a b) ∧ Below w.heap.size w w' := by
  unfold Tr.bal
  by_cases hc : b.ht + 1 < a.ht
  · rw [if_pos hc]
    cases a with
    | leaf xs => exact absurd hc (by simp [Tr.ht])
    | fork al ar =>
      simp only
      by_cases hd : ar.ht ≤ al.ht
      · rw [if_pos hd]; exact bal1_string.calls p q al ar b w ha hb hs hc hd
      · rw [if_neg hd]
        cases ar with
        | leaf xs => exact absurd (Nat.le_trans (by simp [Tr.ht]) (Tr.ht_pos al)) hd
        | fork rl rr => exact bal2_string.calls p q al rl rr b w ha hb hs hc (by omega)
  · rw [if_neg hc]
    by_cases hd : a.ht + 1 < b.ht
    · rw [if_pos hd]
      cases b with
      | leaf xs => exact absurd hd (by simp [Tr.ht])
      | fork bl br =>
        simp only
        by_cases he : bl.ht ≤ br.ht
        · rw [if_pos he]; exact bal3_string.calls p q a bl br w ha hb hs hd he
        · rw [if_neg he]
          cases bl with
          | leaf xs => exact absurd (Nat.le_trans (by simp [Tr.ht]) (Tr.ht_pos br)) he
          | fork ll lr => exact bal4_string.calls p q a ll lr br w ha hb hs hd (by omega)
    · rw [if_neg hd]; exact bal5_string.calls p q a b w ha hb hs hc hd

end Go.Proofs.Ytlopceimlipemaa.Rope
