import Derived.Test.YtlopceimlipemaaRJoin
namespace Go.Proofs.Ytlopceimlipemaa.Rope
open Go.RowKit Go.Proofs.YtlopceimlipemaaW.PrintWords Go.Proofs.YtlopceimlipemaaW.PrintLast Go.Proofs.YtlopceimlipemaaW.PrintMore
set_option linter.unusedVariables false
set_option linter.unusedSimpArgs false

/-- What a call of 'split' answers. -/
def Splits_int (p : Option Addr) (n : Int) (w : World) (r : Option (Tr Int) × Option (Tr Int)) : Prop := Calls Try.prog 52 #[.pointer p, .int .i64 n] w fun e w' => ∃ g h, e = .returned (.tuple #[.pointer g, .pointer h]) ∧ IsO K_int w' g r.1 ∧ IsO K_int w' h r.2 ∧ Below w.heap.size w w'
set_option maxRecDepth 100000 in
set_option maxHeartbeats 4000000 in
theorem split0_int.calls (p : Option Addr) (n : Int) (a : Option (Tr Int)) (w : World) (ha : IsO K_int w p a) (h : a = none ∨ n ≤ 0) : Splits_int p n w (none, a) := by
  unfold Splits_int
  cases a with
  | none =>
    obtain rfl : p = none := ha
    clear h
    go_enter Try.func52, Try.ntmps52
    go_wp2
    go_ret2
    exact ⟨_, _, rfl, rfl, rfl, Below.refl _ _⟩
  | some a =>
    have h0 : n ≤ 0 := by rcases h with h | h; cases h; exact h
    have HA := Aside0.mk ha
    obtain ⟨ba, _, _, rfl, _⟩ := IsN.node ha
    clear ha h
    go_enter Try.func52, Try.ntmps52
    go_wp2
    go_ret2
    exact ⟨_, _, rfl, rfl, HA.out, Below.refl _ _⟩
set_option maxRecDepth 100000 in
set_option maxHeartbeats 4000000 in
theorem split1_int.calls (p : Option Addr) (n : Int) (a : Tr Int) (w : World) (ha : IsN K_int w p a) (h : 0 < n) (h2 : (a.len : Int) ≤ n) : Splits_int p n w (some a, none) := by
  unfold Splits_int
  have HA := Aside0.mk ha
  obtain ⟨ba, _, _, rfl, a0, a1, _⟩ := IsN.node ha
  clear ha
  go_enter Try.func52, Try.ntmps52
  go_wp2
  go_ret2
  exact ⟨_, _, rfl, HA.out, rfl, Below.refl _ _⟩
set_option maxRecDepth 100000 in
set_option maxHeartbeats 4000000 in
theorem split2_int.calls (p : Option Addr) (n : Nat) (xs : List Int) (w : World) (ha : IsN K_int w p (.leaf xs)) (h : 0 < n) (h2 : n < xs.length) : Splits_int p n w (leafO (xs.take n), leafO (xs.drop n)) := by
  unfold Splits_int
  obtain ⟨ba, rfl, x1, x16, ha3⟩ := ha
  have a0 : w.cell? ⟨ba, 0, none⟩ = some (.int .i64 (xs.length : Int)) := (blk_cell ha3 0).trans rfl
  have a1 : w.cell? ⟨ba, 1, none⟩ = some (.int .i64 1) := (blk_cell ha3 1).trans rfl
  have hc := leaf_C_int ha3 x16
  have HT : Aside0 (D_int.C w (some ⟨ba, 4, none⟩) n (xs.take n)) := ⟨by have := Kd.C_take hc (m := n) (by omega); rwa [List.length_take, show min n xs.length = n by omega] at this⟩
  have HDR : Aside0 (D_int.C w (some ⟨ba, 4 + n, none⟩) (xs.length - n) (xs.drop n)) := ⟨by
    have := Kd.C_drop hc (m := n) (c := 16) (by omega) x16
    rw [if_neg (by omega)] at this
    rw [List.length_drop] at this
    have e : (some (⟨ba, 4, none⟩ : Addr)).map (·.add (n * D_int.sz)) = some ⟨ba, 4 + n, none⟩ := by
      show some ((⟨ba, 4, none⟩ : Addr).add (n * 1)) = _
      rw [add_off, Nat.mul_one]
    rw [e] at this
    exact this⟩
  obtain ⟨m, hm⟩ : ∃ m, xs.length = m := ⟨_, rfl⟩
  have HM1 : Aside0 ((xs.take n).length = n) := ⟨by rw [List.length_take]; omega⟩
  have HM2 : Aside0 ((xs.drop n).length = m - n) := ⟨by rw [List.length_drop, hm]⟩
  rw [hm] at a0 h2 x16 x1 HDR
  have n16 : n ≤ 16 := by omega
  have m16 : m - n ≤ 16 := by omega
  have i0 : (0 : Int) ≤ (n : Int) := Int.natCast_nonneg _
  have i1 : (n : Int) ≤ 16 := by omega
  have i2 : (n : Int) ≤ (m : Int) := by omega
  have i3 : (m : Int) ≤ 16 := by omega
  clear ha3 hc hm
  go_enter Try.func52, Try.ntmps52
  go_wp2
  go_region_held3 (fun w' => w'.cell? ⟨ba, 0, none⟩ = some (.int .i64 (m : Int)))
    (first | exact pw_cell_below hS a0 | exact pw_cell_below (below_drew (Below.refl _ _)) a0 | go_keep)
    ((first
      | (go_at_call 68; have hS := below_drew (Below.refl w.heap.size w); with_reducible refine (leafn_int.calls (some ⟨ba, 4, none⟩) 16 n (xs.take n) _ HM1.out (Kd.C_below HT.out hS) n16).mono ?_; rintro e w' ⟨g1, rfl, hn1, hb1⟩; have hT1 := below_step hS hb1; clear hS; have hS := hT1)
      | (go_at_call 68; with_reducible refine (leafn_int.calls (some ⟨ba, 4 + n, none⟩) (16 - n) (m - n) (xs.drop n) _ HM2.out (Kd.C_below HDR.out hS) m16).mono ?_; rintro e w' ⟨g2, rfl, hn2, hb2⟩; have hT2 := below_step hS hb2; clear hS; have hS := hT2)))
  go_wp2
  go_ret2
  exact ⟨_, _, rfl, hn1.below hb2, hn2, hS⟩

set_option maxRecDepth 100000 in
set_option maxHeartbeats 4000000 in
theorem split3_int.calls (p : Option Addr) (n : Int) (al ar : Tr Int) (w : World) (ha : IsN K_int w p (.fork al ar)) (h : 0 < n) (h2 : n < ((al.len + ar.len : Nat) : Int)) (h3 : n ≤ (al.len : Int)) (hs : al.len + ar.len ≤ 4611686018427387904) (r : Option (Tr Int) × Option (Tr Int))
    (hr : lenO r.1 + lenO r.2 = al.len) (ih : ∀ (p : Option Addr) (w : World), IsN K_int w p al → Splits_int p n w r) : Splits_int p n w (r.1, joinO r.2 (some ar)) := by
  unfold Splits_int at *
  obtain ⟨ba, la, ra, rfl, a0, a1, a2, a3, hla, hra⟩ := IsN.node ha
  obtain ⟨bl, _, _, rfl, l0, _, _, _, _⟩ := IsN.node hla
  have z1 := ha.ht_le
  have z2 := Tr.ht_pos al
  have HLA := Aside0.mk hla
  have HRA := Aside0.mk hra
  clear ha hla hra
  obtain ⟨L, hL⟩ : ∃ L : Nat, L = (Tr.fork al ar).len := ⟨_, rfl⟩
  obtain ⟨H, hH⟩ : ∃ H : Nat, H = (Tr.fork al ar).ht := ⟨_, rfl⟩
  have hL' : L = al.len + ar.len := hL
  have hH' : 2 ≤ H := by rw [hH]; simp only [Tr.ht]; omega
  rw [← hL] at a0 z1
  rw [← hH] at a1 z1
  have h2' : n < (L : Int) := by rw [hL']; exact h2
  have hLm : L ≤ 4611686018427387904 := by omega
  have d1 : ((H : Int) == 1) = false := by simp; omega
  have hj : lenO r.2 + lenO (some ar) ≤ 4611686018427387904 := by show lenO r.2 + ar.len ≤ _; omega
  have IH := Aside0.mk ih
  have A2 := Aside0.mk a2
  have A3 := Aside0.mk a3
  clear h2 hr hs hL hL' hH ih z1 z2
  go_enter Try.func52, Try.ntmps52
  go_wp2_with (first
    | (go_at_call 52; with_reducible refine (IH.out _ _ HLA.out).mono ?_; rintro e w1 ⟨g1, g2, rfl, hn1, hn2, hb1⟩; have HN1 := Aside0.mk hn1; have HN2 := Aside0.mk hn2; have HB1 := Aside0.mk hb1; replace a3 := pw_cell_below hb1 a3; have HRA1 := Aside0.mk (HRA.out.below hb1); clear hn1 hn2 hb1 a0 a1 a2 l0)
    | (go_at_call 55; refine (join_int.calls _ _ r.2 (some ar) _ HN2.out HRA1.out hj).mono ?_; rintro e w2 ⟨g3, rfl, hn3, hb3⟩; have HN3 := Aside0.mk hn3; have HB2 := Aside0.mk (below_step HB1.out hb3); have HN1' := Aside0.mk (HN1.out.below hb3); clear hn3 hb3))
  go_ret2
  exact ⟨_, _, rfl, HN1'.out, HN3.out, HB2.out⟩
set_option maxRecDepth 100000 in
set_option maxHeartbeats 4000000 in
theorem split4_int.calls (p : Option Addr) (n : Int) (al ar : Tr Int) (w : World) (ha : IsN K_int w p (.fork al ar)) (h2 : n < ((al.len + ar.len : Nat) : Int)) (h3 : (al.len : Int) < n) (hs : al.len + ar.len ≤ 4611686018427387904) (r : Option (Tr Int) × Option (Tr Int))
    (hr : lenO r.1 + lenO r.2 = ar.len) (ih : ∀ (p : Option Addr) (w : World), IsN K_int w p ar → Splits_int p (n - al.len) w r) : Splits_int p n w (joinO (some al) r.1, r.2) := by
  unfold Splits_int at *
  obtain ⟨ba, la, ra, rfl, a0, a1, a2, a3, hla, hra⟩ := IsN.node ha
  obtain ⟨bl, _, _, rfl, l0, _, _, _, _⟩ := IsN.node hla
  have z1 := ha.ht_le
  have z2 := Tr.ht_pos al
  have HLA := Aside0.mk hla
  have HRA := Aside0.mk hra
  clear ha hla hra
  obtain ⟨L, hL⟩ : ∃ L : Nat, L = (Tr.fork al ar).len := ⟨_, rfl⟩
  obtain ⟨H, hH⟩ : ∃ H : Nat, H = (Tr.fork al ar).ht := ⟨_, rfl⟩
  have hL' : L = al.len + ar.len := hL
  have hH' : 2 ≤ H := by rw [hH]; simp only [Tr.ht]; omega
  rw [← hL] at a0 z1
  rw [← hH] at a1 z1
  have h2' : n < (L : Int) := by rw [hL']; exact h2
  have hLm : L ≤ 4611686018427387904 := by omega
  have h0 : 0 < n := by omega
  have d1 : ((H : Int) == 1) = false := by simp; omega
  have hj : lenO (some al) + lenO r.1 ≤ 4611686018427387904 := by show al.len + lenO r.1 ≤ _; omega
  have hw : IntKind.i64.wrap (n - (al.len : Int)) = n - (al.len : Int) := IntWalk.i64_in _ (by omega)
  have IH := Aside0.mk ih
  clear h2 hr hs hL hL' hH ih z1 z2
  go_enter Try.func52, Try.ntmps52
  go_wp2
  go_region_held3 (fun w' => w'.cell? ⟨ba, 3, none⟩ = some (.pointer ra) ∧ w'.cell? ⟨ba, 2, none⟩ = some (.pointer (some ⟨bl, 0, none⟩)) ∧ w'.cell? ⟨bl, 0, none⟩ = some (.int .i64 (al.len : Int)))
    (first | exact ⟨pw_cell_below hS a3, pw_cell_below hS a2, pw_cell_below hS l0⟩ | exact ⟨pw_cell_below (below_drew (Below.refl _ _)) a3, pw_cell_below (below_drew (Below.refl _ _)) a2, pw_cell_below (below_drew (Below.refl _ _)) l0⟩ | go_keep)
    ((first
      | (go_at_call 52; have hD := below_drew (Below.refl w.heap.size w); with_reducible refine (IH.out _ _ (HRA.out.below hD)).mono ?_; rintro e w1 ⟨g1, g2, rfl, hn1, hn2, hb1⟩; have hS := below_step hD hb1)))
  have HN1 := Aside0.mk hn1
  have HN2 := Aside0.mk hn2
  have HS := Aside0.mk hS
  have HLA1 := Aside0.mk (HLA.out.below hS)
  replace a2 := pw_cell_below hS a2
  clear hn1 hn2 hb1 a0 a1 a3 l0 hS
  go_wp2_with (go_at_call 55; refine (join_int.calls _ _ (some al) r.1 _ HLA1.out HN1.out hj).mono ?_; rintro e w2 ⟨g3, rfl, hn3, hb3⟩; have HN3 := Aside0.mk hn3; have HB2 := Aside0.mk (below_step HS.out hb3); have HN2' := Aside0.mk (HN2.out.below hb3); clear hn3 hb3)
  go_ret2
  exact ⟨_, _, rfl, HN3.out, HN2'.out, HB2.out⟩
theorem splits_int : ∀ (t : Tr Int) (p : Option Addr) (n : Int) (w : World), IsN K_int w p t → t.len ≤ 4611686018427387904 → Splits_int p n w (t.split n)
  | .leaf xs, p, n, w, ha, hs => by
    unfold Tr.split
    by_cases h : n ≤ 0
    · rw [if_pos h]; exact split0_int.calls p n (some (.leaf xs)) w ha (.inr h)
    · rw [if_neg h]
      by_cases h2 : (xs.length : Int) ≤ n
      · rw [if_pos h2]; exact split1_int.calls p n (.leaf xs) w ha (by omega) h2
      · rw [if_neg h2]
        obtain ⟨k, rfl⟩ : ∃ k : Nat, n = (k : Int) := ⟨n.toNat, by omega⟩
        rw [Int.toNat_natCast]
        exact split2_int.calls p k xs w ha (by omega) (by omega)
  | .fork a b, p, n, w, ha, hs => by
    unfold Tr.split
    simp only [Tr.len] at hs
    by_cases h : n ≤ 0
    · rw [if_pos h]; exact split0_int.calls p n (some (.fork a b)) w ha (.inr h)
    · rw [if_neg h]
      by_cases h2 : ((a.len + b.len : Nat) : Int) ≤ n
      · rw [if_pos h2]; exact split1_int.calls p n (.fork a b) w ha (by omega) h2
      · rw [if_neg h2]
        by_cases h3 : n ≤ (a.len : Int)
        · rw [if_pos h3]; exact split3_int.calls p n a b w ha (by omega) (by omega) h3 hs (a.split n) (a.split_len n) fun p w hp => splits_int a p n w hp (by omega)
        · rw [if_neg h3]; exact split4_int.calls p n a b w ha (by omega) (by omega) hs (b.split (n - a.len)) (b.split_len _) fun p w hp => splits_int b p (n - a.len) w hp (by omega)
theorem split_int.calls (p : Option Addr) (n : Int) (a : Option (Tr Int)) (w : World) (ha : IsO K_int w p a) (hs : lenO a ≤ 4611686018427387904) :
    Calls Try.prog 52 #[.pointer p, .int .i64 n] w fun e w' => ∃ g h, e = .returned (.tuple #[.pointer g, .pointer h]) ∧ IsO K_int w' g (splitO a n).1 ∧ IsO K_int w' h (splitO a n).2 ∧ Below w.heap.size w w' := by
  cases a with
  | none => exact split0_int.calls p n none w ha (.inl rfl)
  | some t => exact splits_int t p n w ha hs

end Go.Proofs.Ytlopceimlipemaa.Rope

namespace Go.Proofs.Ytlopceimlipemaa.Rope
open Go.RowKit Go.Proofs.YtlopceimlipemaaW.PrintWords Go.Proofs.YtlopceimlipemaaW.PrintLast Go.Proofs.YtlopceimlipemaaW.PrintMore
set_option linter.unusedVariables false
set_option linter.unusedSimpArgs false

/-- What a call of 'split' answers. -/
def Splits_string (p : Option Addr) (n : Int) (w : World) (r : Option (Tr ByteArray) × Option (Tr ByteArray)) : Prop := Calls Try.prog 65 #[.pointer p, .int .i64 n] w fun e w' => ∃ g h, e = .returned (.tuple #[.pointer g, .pointer h]) ∧ IsO K_string w' g r.1 ∧ IsO K_string w' h r.2 ∧ Below w.heap.size w w'
set_option maxRecDepth 100000 in
set_option maxHeartbeats 4000000 in
theorem split0_string.calls (p : Option Addr) (n : Int) (a : Option (Tr ByteArray)) (w : World) (ha : IsO K_string w p a) (h : a = none ∨ n ≤ 0) : Splits_string p n w (none, a) := by
  unfold Splits_string
  cases a with
  | none =>
    obtain rfl : p = none := ha
    clear h
    go_enter Try.func65, Try.ntmps65
    go_wp2
    go_ret2
    exact ⟨_, _, rfl, rfl, rfl, Below.refl _ _⟩
  | some a =>
    have h0 : n ≤ 0 := by rcases h with h | h; cases h; exact h
    have HA := Aside0.mk ha
    obtain ⟨ba, _, _, rfl, _⟩ := IsN.node ha
    clear ha h
    go_enter Try.func65, Try.ntmps65
    go_wp2
    go_ret2
    exact ⟨_, _, rfl, rfl, HA.out, Below.refl _ _⟩
set_option maxRecDepth 100000 in
set_option maxHeartbeats 4000000 in
theorem split1_string.calls (p : Option Addr) (n : Int) (a : Tr ByteArray) (w : World) (ha : IsN K_string w p a) (h : 0 < n) (h2 : (a.len : Int) ≤ n) : Splits_string p n w (some a, none) := by
  unfold Splits_string
  have HA := Aside0.mk ha
  obtain ⟨ba, _, _, rfl, a0, a1, _⟩ := IsN.node ha
  clear ha
  go_enter Try.func65, Try.ntmps65
  go_wp2
  go_ret2
  exact ⟨_, _, rfl, HA.out, rfl, Below.refl _ _⟩
set_option maxRecDepth 100000 in
set_option maxHeartbeats 4000000 in
theorem split2_string.calls (p : Option Addr) (n : Nat) (xs : List ByteArray) (w : World) (ha : IsN K_string w p (.leaf xs)) (h : 0 < n) (h2 : n < xs.length) : Splits_string p n w (leafO (xs.take n), leafO (xs.drop n)) := by
  unfold Splits_string
  obtain ⟨ba, rfl, x1, x16, ha3⟩ := ha
  have a0 : w.cell? ⟨ba, 0, none⟩ = some (.int .i64 (xs.length : Int)) := (blk_cell ha3 0).trans rfl
  have a1 : w.cell? ⟨ba, 1, none⟩ = some (.int .i64 1) := (blk_cell ha3 1).trans rfl
  have hc := leaf_C_string ha3 x16
  have HT : Aside0 (D_string.C w (some ⟨ba, 4, none⟩) n (xs.take n)) := ⟨by have := Kd.C_take hc (m := n) (by omega); rwa [List.length_take, show min n xs.length = n by omega] at this⟩
  have HDR : Aside0 (D_string.C w (some ⟨ba, 4 + n, none⟩) (xs.length - n) (xs.drop n)) := ⟨by
    have := Kd.C_drop hc (m := n) (c := 16) (by omega) x16
    rw [if_neg (by omega)] at this
    rw [List.length_drop] at this
    have e : (some (⟨ba, 4, none⟩ : Addr)).map (·.add (n * D_string.sz)) = some ⟨ba, 4 + n, none⟩ := by
      show some ((⟨ba, 4, none⟩ : Addr).add (n * 1)) = _
      rw [add_off, Nat.mul_one]
    rw [e] at this
    exact this⟩
  obtain ⟨m, hm⟩ : ∃ m, xs.length = m := ⟨_, rfl⟩
  have HM1 : Aside0 ((xs.take n).length = n) := ⟨by rw [List.length_take]; omega⟩
  have HM2 : Aside0 ((xs.drop n).length = m - n) := ⟨by rw [List.length_drop, hm]⟩
  rw [hm] at a0 h2 x16 x1 HDR
  have n16 : n ≤ 16 := by omega
  have m16 : m - n ≤ 16 := by omega
  have i0 : (0 : Int) ≤ (n : Int) := Int.natCast_nonneg _
  have i1 : (n : Int) ≤ 16 := by omega
  have i2 : (n : Int) ≤ (m : Int) := by omega
  have i3 : (m : Int) ≤ 16 := by omega
  clear ha3 hc hm
  go_enter Try.func65, Try.ntmps65
  go_wp2
  go_region_held3 (fun w' => w'.cell? ⟨ba, 0, none⟩ = some (.int .i64 (m : Int)))
    (first | exact pw_cell_below hS a0 | exact pw_cell_below (below_drew (Below.refl _ _)) a0 | go_keep)
    ((first
      | (go_at_call 76; have hS := below_drew (Below.refl w.heap.size w); with_reducible refine (leafn_string.calls (some ⟨ba, 4, none⟩) 16 n (xs.take n) _ HM1.out (Kd.C_below HT.out hS) n16).mono ?_; rintro e w' ⟨g1, rfl, hn1, hb1⟩; have hT1 := below_step hS hb1; clear hS; have hS := hT1)
      | (go_at_call 76; with_reducible refine (leafn_string.calls (some ⟨ba, 4 + n, none⟩) (16 - n) (m - n) (xs.drop n) _ HM2.out (Kd.C_below HDR.out hS) m16).mono ?_; rintro e w' ⟨g2, rfl, hn2, hb2⟩; have hT2 := below_step hS hb2; clear hS; have hS := hT2)))
  go_wp2
  go_ret2
  exact ⟨_, _, rfl, hn1.below hb2, hn2, hS⟩

set_option maxRecDepth 100000 in
set_option maxHeartbeats 4000000 in
theorem split3_string.calls (p : Option Addr) (n : Int) (al ar : Tr ByteArray) (w : World) (ha : IsN K_string w p (.fork al ar)) (h : 0 < n) (h2 : n < ((al.len + ar.len : Nat) : Int)) (h3 : n ≤ (al.len : Int)) (hs : al.len + ar.len ≤ 4611686018427387904) (r : Option (Tr ByteArray) × Option (Tr ByteArray))
    (hr : lenO r.1 + lenO r.2 = al.len) (ih : ∀ (p : Option Addr) (w : World), IsN K_string w p al → Splits_string p n w r) : Splits_string p n w (r.1, joinO r.2 (some ar)) := by
  unfold Splits_string at *
  obtain ⟨ba, la, ra, rfl, a0, a1, a2, a3, hla, hra⟩ := IsN.node ha
  obtain ⟨bl, _, _, rfl, l0, _, _, _, _⟩ := IsN.node hla
  have z1 := ha.ht_le
  have z2 := Tr.ht_pos al
  have HLA := Aside0.mk hla
  have HRA := Aside0.mk hra
  clear ha hla hra
  obtain ⟨L, hL⟩ : ∃ L : Nat, L = (Tr.fork al ar).len := ⟨_, rfl⟩
  obtain ⟨H, hH⟩ : ∃ H : Nat, H = (Tr.fork al ar).ht := ⟨_, rfl⟩
  have hL' : L = al.len + ar.len := hL
  have hH' : 2 ≤ H := by rw [hH]; simp only [Tr.ht]; omega
  rw [← hL] at a0 z1
  rw [← hH] at a1 z1
  have h2' : n < (L : Int) := by rw [hL']; exact h2
  have hLm : L ≤ 4611686018427387904 := by omega
  have d1 : ((H : Int) == 1) = false := by simp; omega
  have hj : lenO r.2 + lenO (some ar) ≤ 4611686018427387904 := by show lenO r.2 + ar.len ≤ _; omega
  have IH := Aside0.mk ih
  have A2 := Aside0.mk a2
  have A3 := Aside0.mk a3
  clear h2 hr hs hL hL' hH ih z1 z2
  go_enter Try.func65, Try.ntmps65
  go_wp2_with (first
    | (go_at_call 65; with_reducible refine (IH.out _ _ HLA.out).mono ?_; rintro e w1 ⟨g1, g2, rfl, hn1, hn2, hb1⟩; have HN1 := Aside0.mk hn1; have HN2 := Aside0.mk hn2; have HB1 := Aside0.mk hb1; replace a3 := pw_cell_below hb1 a3; have HRA1 := Aside0.mk (HRA.out.below hb1); clear hn1 hn2 hb1 a0 a1 a2 l0)
    | (go_at_call 66; refine (join_string.calls _ _ r.2 (some ar) _ HN2.out HRA1.out hj).mono ?_; rintro e w2 ⟨g3, rfl, hn3, hb3⟩; have HN3 := Aside0.mk hn3; have HB2 := Aside0.mk (below_step HB1.out hb3); have HN1' := Aside0.mk (HN1.out.below hb3); clear hn3 hb3))
  go_ret2
  exact ⟨_, _, rfl, HN1'.out, HN3.out, HB2.out⟩
set_option maxRecDepth 100000 in
set_option maxHeartbeats 4000000 in
theorem split4_string.calls (p : Option Addr) (n : Int) (al ar : Tr ByteArray) (w : World) (ha : IsN K_string w p (.fork al ar)) (h2 : n < ((al.len + ar.len : Nat) : Int)) (h3 : (al.len : Int) < n) (hs : al.len + ar.len ≤ 4611686018427387904) (r : Option (Tr ByteArray) × Option (Tr ByteArray))
    (hr : lenO r.1 + lenO r.2 = ar.len) (ih : ∀ (p : Option Addr) (w : World), IsN K_string w p ar → Splits_string p (n - al.len) w r) : Splits_string p n w (joinO (some al) r.1, r.2) := by
  unfold Splits_string at *
  obtain ⟨ba, la, ra, rfl, a0, a1, a2, a3, hla, hra⟩ := IsN.node ha
  obtain ⟨bl, _, _, rfl, l0, _, _, _, _⟩ := IsN.node hla
  have z1 := ha.ht_le
  have z2 := Tr.ht_pos al
  have HLA := Aside0.mk hla
  have HRA := Aside0.mk hra
  clear ha hla hra
  obtain ⟨L, hL⟩ : ∃ L : Nat, L = (Tr.fork al ar).len := ⟨_, rfl⟩
  obtain ⟨H, hH⟩ : ∃ H : Nat, H = (Tr.fork al ar).ht := ⟨_, rfl⟩
  have hL' : L = al.len + ar.len := hL
  have hH' : 2 ≤ H := by rw [hH]; simp only [Tr.ht]; omega
  rw [← hL] at a0 z1
  rw [← hH] at a1 z1
  have h2' : n < (L : Int) := by rw [hL']; exact h2
  have hLm : L ≤ 4611686018427387904 := by omega
  have h0 : 0 < n := by omega
  have d1 : ((H : Int) == 1) = false := by simp; omega
  have hj : lenO (some al) + lenO r.1 ≤ 4611686018427387904 := by show al.len + lenO r.1 ≤ _; omega
  have hw : IntKind.i64.wrap (n - (al.len : Int)) = n - (al.len : Int) := IntWalk.i64_in _ (by omega)
  have IH := Aside0.mk ih
  clear h2 hr hs hL hL' hH ih z1 z2
  go_enter Try.func65, Try.ntmps65
  go_wp2
  go_region_held3 (fun w' => w'.cell? ⟨ba, 3, none⟩ = some (.pointer ra) ∧ w'.cell? ⟨ba, 2, none⟩ = some (.pointer (some ⟨bl, 0, none⟩)) ∧ w'.cell? ⟨bl, 0, none⟩ = some (.int .i64 (al.len : Int)))
    (first | exact ⟨pw_cell_below hS a3, pw_cell_below hS a2, pw_cell_below hS l0⟩ | exact ⟨pw_cell_below (below_drew (Below.refl _ _)) a3, pw_cell_below (below_drew (Below.refl _ _)) a2, pw_cell_below (below_drew (Below.refl _ _)) l0⟩ | go_keep)
    ((first
      | (go_at_call 65; have hD := below_drew (Below.refl w.heap.size w); with_reducible refine (IH.out _ _ (HRA.out.below hD)).mono ?_; rintro e w1 ⟨g1, g2, rfl, hn1, hn2, hb1⟩; have hS := below_step hD hb1)))
  have HN1 := Aside0.mk hn1
  have HN2 := Aside0.mk hn2
  have HS := Aside0.mk hS
  have HLA1 := Aside0.mk (HLA.out.below hS)
  replace a2 := pw_cell_below hS a2
  clear hn1 hn2 hb1 a0 a1 a3 l0 hS
  go_wp2_with (go_at_call 66; refine (join_string.calls _ _ (some al) r.1 _ HLA1.out HN1.out hj).mono ?_; rintro e w2 ⟨g3, rfl, hn3, hb3⟩; have HN3 := Aside0.mk hn3; have HB2 := Aside0.mk (below_step HS.out hb3); have HN2' := Aside0.mk (HN2.out.below hb3); clear hn3 hb3)
  go_ret2
  exact ⟨_, _, rfl, HN3.out, HN2'.out, HB2.out⟩
theorem splits_string : ∀ (t : Tr ByteArray) (p : Option Addr) (n : Int) (w : World), IsN K_string w p t → t.len ≤ 4611686018427387904 → Splits_string p n w (t.split n)
  | .leaf xs, p, n, w, ha, hs => by
    unfold Tr.split
    by_cases h : n ≤ 0
    · rw [if_pos h]; exact split0_string.calls p n (some (.leaf xs)) w ha (.inr h)
    · rw [if_neg h]
      by_cases h2 : (xs.length : Int) ≤ n
      · rw [if_pos h2]; exact split1_string.calls p n (.leaf xs) w ha (by omega) h2
      · rw [if_neg h2]
        obtain ⟨k, rfl⟩ : ∃ k : Nat, n = (k : Int) := ⟨n.toNat, by omega⟩
        rw [Int.toNat_natCast]
        exact split2_string.calls p k xs w ha (by omega) (by omega)
  | .fork a b, p, n, w, ha, hs => by
    unfold Tr.split
    simp only [Tr.len] at hs
    by_cases h : n ≤ 0
    · rw [if_pos h]; exact split0_string.calls p n (some (.fork a b)) w ha (.inr h)
    · rw [if_neg h]
      by_cases h2 : ((a.len + b.len : Nat) : Int) ≤ n
      · rw [if_pos h2]; exact split1_string.calls p n (.fork a b) w ha (by omega) h2
      · rw [if_neg h2]
        by_cases h3 : n ≤ (a.len : Int)
        · rw [if_pos h3]; exact split3_string.calls p n a b w ha (by omega) (by omega) h3 hs (a.split n) (a.split_len n) fun p w hp => splits_string a p n w hp (by omega)
        · rw [if_neg h3]; exact split4_string.calls p n a b w ha (by omega) (by omega) hs (b.split (n - a.len)) (b.split_len _) fun p w hp => splits_string b p (n - a.len) w hp (by omega)
theorem split_string.calls (p : Option Addr) (n : Int) (a : Option (Tr ByteArray)) (w : World) (ha : IsO K_string w p a) (hs : lenO a ≤ 4611686018427387904) :
    Calls Try.prog 65 #[.pointer p, .int .i64 n] w fun e w' => ∃ g h, e = .returned (.tuple #[.pointer g, .pointer h]) ∧ IsO K_string w' g (splitO a n).1 ∧ IsO K_string w' h (splitO a n).2 ∧ Below w.heap.size w w' := by
  cases a with
  | none => exact split0_string.calls p n none w ha (.inl rfl)
  | some t => exact splits_string t p n w ha hs

end Go.Proofs.Ytlopceimlipemaa.Rope
