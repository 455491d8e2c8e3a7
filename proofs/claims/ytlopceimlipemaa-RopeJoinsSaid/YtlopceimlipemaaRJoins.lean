/- RopeJoins: joining is associative; what Split returns, joined, is the rope; Part of Part is Part. -/
import Derived.Test.YtlopceimlipemaaREqual
import Derived.Test.YtlopceimlipemaaRAwake
import Derived.Test.YtlopceimlipemaaRPart
import Derived.Test.YtlopceimlipemaaRPartPart
import Derived.Deep.CutRange
namespace Go.Proofs.Ytlopceimlipemaa.Rope
open Go.RowKit Go.Proofs.YtlopceimlipemaaW.PrintWords Go.Proofs.YtlopceimlipemaaW.PrintLast Go.Proofs.YtlopceimlipemaaW.PrintMore Go.Shelf
set_option linter.unusedVariables false
set_option linter.unusedSimpArgs false
attribute [local go_sem] Oper.semAt_some
theorem min2_mn (k k' : IntKind) (x y : Int) : Builtin.min2 (.int k x) (.int k' y) = pure (.int k (mn x y)) := min2_int k k' x y
attribute [local go_sem] min2_mn min_two

theorem below_alloc {w X : World} (h : Below w.heap.size w X) (o : Obj) : Below w.heap.size w (X.alloc o) := h.alloc h.size o
theorem below_set {w X : World} {b i : Nat} {v : Value} (h : Below w.heap.size w X) (hb : w.heap.size ≤ b) : Below w.heap.size w (X.setCell ⟨b, i, none⟩ v) := h.setCell (p := ⟨b, i, none⟩) hb v
theorem IsO.alloc1 {W : World} {p : Option Addr} {t : Option (Tr Int)} (h : IsO K_int W p t) (o : Obj) : IsO K_int (W.alloc o) p t := IsO.below ((Below.refl _ _).alloc (Nat.le_refl _) _) h
theorem below_drw {n : Nat} {w X : World} (h : Below n w X) : Below n w X.drew := below_drew h
theorem alloc_old {W : World} {k : Nat} {c : Obj} (h : W.heap[k]? = some c) (o : Obj) : (W.alloc o).heap[k]? = some c := (Below.heap_alloc _ _ _ (Array.getElem?_eq_some_iff.1 h).1).trans h
theorem below_blk {w w1 : World} {g : Nat} {o : Obj} (hb : Below w.heap.size w w1) (h : w.heap[g]? = some o) : w1.heap[g]? = some o := blk_below h hb
theorem heap_newS (w : World) (p : Addr) (v : Value) (o : Obj) : ((w.setCell p v).alloc o).heap[w.heap.size]? = some o := by have h := heap_new (w.setCell p v) o; simpa using h
theorem un_drew {w : World} {k : Nat} {o : Obj} (h : w.heap[k]? = some o) : w.drew.heap[k]? = some o := h
theorem heap_newD (w : World) (o : Obj) : (w.drew.alloc o).heap[w.heap.size]? = some o := heap_new w.drew o
theorem alloc2D (w : World) (o o2 : Obj) : ((w.drew.alloc o).alloc o2).heap[w.heap.size]? = some o := (alloc2 w.drew o o2).1
theorem alloc2E (w : World) (o o2 : Obj) : ((w.drew.alloc o).alloc o2).heap[w.heap.size + 1]? = some o2 := (alloc2 w.drew o o2).2.1
theorem alloc_hs (w : World) (o : Obj) : (w.alloc o).heap.size = w.heap.size + 1 := by simp
theorem drew_hs (w : World) : w.drew.heap.size = w.heap.size := rfl
theorem G_of {W W1 : World} (h : Below W.heap.size W W1) : ∀ (b : Nat) (o : Obj), W.heap[b]? = some o → W1.heap[b]? = some o := fun b o hk => below_blk h hk
/-- What lay reads as before. -/
theorem reads_same {W W1 : World} (hb : Below W.heap.size W W1) : (∀ b o, b < W.heap.size → W1.cell? ⟨b, o, none⟩ = W.cell? ⟨b, o, none⟩) ∧ (∀ b o, b < W.heap.size → W1.frozen? ⟨b, o, none⟩ = W.frozen? ⟨b, o, none⟩) :=
  ⟨fun b o h => hb.cell (p := ⟨b, o, none⟩) h, fun b o h => hb.frozen (p := ⟨b, o, none⟩) h⟩
/-- What the statement says of the trees. -/
structure JFacts (l m k : List Int) (X Y : Option (Tr Int)) (N : Nat) : Prop where
  lx : listO X = l ++ m ++ k
  ly : listO Y = l ++ m ++ k
  nx : lenO X = N
  ny : lenO Y = N

/-- A slice of three slices. -/
theorem three_C {α : Type} {d : Kd α} {e : Nat} {W : World} {b : Nat} {t : TypeId} {A1 A2 A3 : Option Addr} {n1 n2 n3 c1 c2 c3 : Nat} {xs ys zs : List α} (h : W.heap[b]? = some (.cells #[.slice A1 n1 c1, .slice A2 n2 c2, .slice A3 n3 c3] t (0, 0))) (e1 : xs.length = n1) (e2 : ys.length = n2) (e3 : zs.length = n3) (h1 : n1 ≤ c1) (h2 : n2 ≤ c2) (h3 : n3 ≤ c3)
    (hx : d.C W A1 n1 xs) (hy : d.C W A2 n2 ys) (hz : d.C W A3 n3 zs) : (Kd.slice e d).C W (some ⟨b, 0, none⟩) [xs, ys, zs].length [xs, ys, zs] := by
  subst e1; subst e2; subst e3
  refine ⟨rfl, by simp, fun _ => ⟨_, rfl, fun j p hj => ?_⟩⟩
  match j, hj with
  | 0, hj =>
    obtain rfl : xs = p := by simpa using hj
    refine ⟨[.slice A1 xs.length c1], rfl, ⟨A1, c1, rfl, h1, hx⟩, fun i u hu => ?_⟩
    match i, hu with
    | 0, hu =>
      obtain rfl : Value.slice A1 xs.length c1 = u := by simpa using hu
      exact (blk_cell h 0).trans rfl
  | 1, hj =>
    obtain rfl : ys = p := by simpa using hj
    refine ⟨[.slice A2 ys.length c2], rfl, ⟨A2, c2, rfl, h2, hy⟩, fun i u hu => ?_⟩
    match i, hu with
    | 0, hu =>
      obtain rfl : Value.slice A2 ys.length c2 = u := by simpa using hu
      exact (blk_cell h 1).trans rfl
  | 2, hj =>
    obtain rfl : zs = p := by simpa using hj
    refine ⟨[.slice A3 zs.length c3], rfl, ⟨A3, c3, rfl, h3, hz⟩, fun i u hu => ?_⟩
    match i, hu with
    | 0, hu =>
      obtain rfl : Value.slice A3 zs.length c3 = u := by simpa using hu
      exact (blk_cell h 2).trans rfl

set_option maxRecDepth 100000 in
set_option maxHeartbeats 16000000 in
theorem Joins1.calls (A1 : Option Addr) (c1 n1 : Nat) (l : List Int) (A2 : Option Addr) (c2 n2 : Nat) (m : List Int) (A3 : Option Addr) (c3 n3 : Nat) (k : List Int) (at_ from_ to_ : Int) (w : World)
    (hC1 : D_int.C w A1 n1 l) (hl1 : l.length = n1) (hc1 : n1 ≤ c1) (hC2 : D_int.C w A2 n2 m) (hl2 : m.length = n2) (hc2 : n2 ≤ c2) (hC3 : D_int.C w A3 n3 k) (hl3 : k.length = n3) (hc3 : n3 ≤ c3) (h1 : n1 ≤ 300) (h2 : n2 ≤ 300) (h3 : n3 ≤ 300)
    (ha0 : 0 ≤ at_) (ha1 : at_ < 65536) (hf0 : 0 ≤ from_) (hf1 : from_ < 65536) (ht0 : 0 ≤ to_) (ht1 : to_ < 65536) :
    Calls Try.prog 5 #[.slice A1 n1 c1, .slice A2 n2 c2, .slice A3 n3 c3, .int .u16 at_, .int .u16 from_, .int .u16 to_] w fun e w' => e = .returned (.bool true) ∧ Below w.heap.size w w' := by
  have d1 : decide ((300 : Int) < (n1 : Int)) = false := by simp; omega
  have d1' : decide (300 < n1) = false := by simp; omega
  have d2 : decide ((300 : Int) < (n2 : Int)) = false := by simp; omega
  have d2' : decide (300 < n2) = false := by simp; omega
  have d3 : decide ((300 : Int) < (n3 : Int)) = false := by simp; omega
  have d3' : decide (300 < n3) = false := by simp; omega
  have HC1 := Aside0.mk hC1
  have HC2 := Aside0.mk hC2
  have HC3 := Aside0.mk hC3
  have HL1 := Aside0.mk hl1
  have HL2 := Aside0.mk hl2
  have HL3 := Aside0.mk hl3
  obtain ⟨Ta, hTa⟩ : ∃ T, T = buildT l := ⟨_, rfl⟩
  obtain ⟨Tb, hTb⟩ : ∃ T, T = buildT m := ⟨_, rfl⟩
  obtain ⟨Tc, hTc⟩ : ∃ T, T = buildT k := ⟨_, rfl⟩
  have ia : listO Ta = l := by rw [hTa, buildT_list]
  have ib : listO Tb = m := by rw [hTb, buildT_list]
  have ic : listO Tc = k := by rw [hTc, buildT_list]
  have la : lenO Ta = n1 := by rw [← listO_len, ia, hl1]
  have lb : lenO Tb = n2 := by rw [← listO_len, ib, hl2]
  have lc : lenO Tc = n3 := by rw [← listO_len, ic, hl3]
  obtain ⟨N, hN⟩ : ∃ N, N = n1 + n2 + n3 := ⟨_, rfl⟩
  obtain ⟨X, hX⟩ : ∃ X, X = joinO (joinO Ta Tb) Tc := ⟨_, rfl⟩
  obtain ⟨Y, hY⟩ : ∃ Y, Y = joinO Ta (joinO Tb Tc) := ⟨_, rfl⟩
  have hF : JFacts l m k X Y N := ⟨by rw [hX, joinO_list, joinO_list, ia, ib, ic], by rw [hY, joinO_list, joinO_list, ia, ib, ic, List.append_assoc], by rw [hX, joinO_len, joinO_len, la, lb, lc, hN], by rw [hY, joinO_len, joinO_len, la, lb, lc, hN]; omega⟩
  have hJ : lenO Ta + lenO Tb ≤ 4611686018427387904 ∧ lenO (joinO Ta Tb) + lenO Tc ≤ 4611686018427387904 ∧ lenO Tb + lenO Tc ≤ 4611686018427387904 ∧ lenO Ta + lenO (joinO Tb Tc) ≤ 4611686018427387904 := by
    rw [joinO_len, joinO_len, la, lb, lc]; omega
  have HJ := Aside0.mk hJ
  have HF := Aside0.mk hF
  have HX := Aside0.mk hX
  have HY := Aside0.mk hY
  have HTa := Aside0.mk hTa
  have HTb := Aside0.mk hTb
  have HTc := Aside0.mk hTc
  have hN9 : N ≤ 900 := by omega
  have E1 : Aside0 (n1 ≤ 4611686018427387904) := ⟨by omega⟩
  have E2 : Aside0 (n2 ≤ 4611686018427387904) := ⟨by omega⟩
  have E3 : Aside0 (n3 ≤ 4611686018427387904) := ⟨by omega⟩
  have HNN := Aside0.mk hN
  clear hC1 hC2 hC3 hl1 hl2 hl3 hTa hTb hTc ia ib ic la lb lc hN hX hY hF hJ
  go_enter Try.func5, Try.ntmps5
  go_wp2_with fail
  refine (Of_int.calls A1 c1 n1 l _ HL1.out HC1.out hc1 E1.out).mono ?_
  rintro e w1 ⟨ga, rfl, hOa, hb1⟩
  rw [← HTa.out] at hOa
  have B1 := Aside0.mk hb1
  have OA := Aside0.mk hOa
  clear hOa hb1
  go_wp2_with fail
  refine (Of_int.calls A2 c2 n2 m _ HL2.out (Kd.C_below HC2.out B1.out) hc2 E2.out).mono ?_
  rintro e w2 ⟨gb, rfl, hOb, hb2⟩
  rw [← HTb.out] at hOb
  have B2 := Aside0.mk (below_step B1.out hb2)
  have OA2 := Aside0.mk (OA.out.below hb2)
  have OB := Aside0.mk hOb
  clear hOb hb2 OA
  go_wp2_with fail
  refine (Of_int.calls A3 c3 n3 k _ HL3.out (Kd.C_below HC3.out B2.out) hc3 E3.out).mono ?_
  rintro e w3 ⟨gc, rfl, hOc, hb3⟩
  rw [← HTc.out] at hOc
  obtain ⟨k1, k2, k3, hb4⟩ := alloc3 w3 (.cells #[.pointer ga] 26) (.cells #[.pointer gb] 26) (.cells #[.pointer gc] 26)
  obtain ⟨W4, hW4⟩ : ∃ W, ((w3.alloc (.cells #[.pointer ga] 26)).alloc (.cells #[.pointer gb] 26)).alloc (.cells #[.pointer gc] 26) = W := ⟨_, rfl⟩
  have HW4 := Aside0.mk hW4
  rw [hW4] at k1 k2 k3 hb4
  have B4 := Aside0.mk (below_step (below_step B2.out hb3) hb4)
  have OA4 := Aside0.mk ((OA2.out.below hb3).below hb4)
  have OB4 := Aside0.mk ((OB.out.below hb3).below hb4)
  have OC4 := Aside0.mk (IsO.below hb4 hOc)
  have x1 : W4.cell? ⟨w3.heap.size, 0, none⟩ = some (.pointer ga) := (blk_cell k1 0).trans rfl
  have x2 : W4.cell? ⟨w3.heap.size + 1, 0, none⟩ = some (.pointer gb) := (blk_cell k2 0).trans rfl
  have x3 : W4.cell? ⟨w3.heap.size + 1 + 1, 0, none⟩ = some (.pointer gc) := (blk_cell k3 0).trans rfl
  clear hOc hb3 hb4 hW4 OA2 OB k1 k2 k3
  go_upto_region 4 with fail
  rw [HW4.out]
  clear HW4
  have L1 := World.block_lt_of_cell? W4 _ x1
  have L2 := World.block_lt_of_cell? W4 _ x2
  have L3 := World.block_lt_of_cell? W4 _ x3
  go_cut [16, 17] from 44 to 53 (fun v16 v17 wr => Aside0 (∃ (b16 b17 : Nat) (gx gy : Option Addr), v16 = .pointer (some ⟨b16, 0, none⟩) ∧ v17 = .pointer (some ⟨b17, 0, none⟩) ∧ W4.heap.size ≤ b16 ∧ W4.heap.size ≤ b17 ∧ wr.heap[b16]? = some (.cells #[.pointer gx] 26 (0, 0)) ∧ wr.heap[b17]? = some (.cells #[.pointer gy] 26 (0, 0)) ∧ IsO K_int wr gx X ∧ IsO K_int wr gy Y ∧ Below W4.heap.size W4 wr))
  case first =>
    go_region_held3 (fun W' => Below W4.heap.size W4 W' ∧ W'.cell? ⟨w3.heap.size, 0, none⟩ = some (.pointer ga) ∧ W'.cell? ⟨w3.heap.size + 1, 0, none⟩ = some (.pointer gb) ∧ W'.cell? ⟨w3.heap.size + 1 + 1, 0, none⟩ = some (.pointer gc))
      ((go_split_ands; (refine (fun (h : Below W4.heap.size W4 _) => ⟨h, (h.cell L1).trans x1, (h.cell L2).trans x2, (h.cell L3).trans x3⟩) ?_); repeat (first | with_reducible assumption | with_reducible exact Below.refl _ _ | with_reducible refine below_alloc ?_ _ | with_reducible refine below_step ?_ hbJ4 | with_reducible refine below_step ?_ hbJ3 | with_reducible refine below_step ?_ hbJ2 | with_reducible refine below_step ?_ hbJ1 | with_reducible refine below_set ?_ (by omega) | with_reducible refine below_drw ?_)))
      (first
        | (go_at_call 22; go_split_ands; (with_reducible refine (RJoin_int.calls ga gb Ta Tb _ (IsO.below (by assumption) OA4.out) (IsO.below (by assumption) OB4.out) HJ.out.1).mono ?_); rintro e V1 ⟨g1, rfl, hO1, hb1⟩; have hbJ1 := hb1; have hbF1 := below_step (show Below W4.heap.size W4 _ by assumption) hb1; have z1 := hb1.size; (try simp only [alloc_hs, drew_hs] at z1); have G1 := G_of hb1; have O1 := Aside0.mk hO1; clear hO1)
        | (go_at_call 22; go_split_ands; (with_reducible refine (RJoin_int.calls g1 gc (joinO Ta Tb) Tc _ (IsO.below (by repeat (first | with_reducible assumption | with_reducible exact Below.refl _ _ | with_reducible refine below_alloc ?_ _ | with_reducible refine below_step ?_ hbJ4 | with_reducible refine below_step ?_ hbJ3 | with_reducible refine below_step ?_ hbJ2 | with_reducible refine below_step ?_ hbJ1 | with_reducible refine below_drw ?_)) O1.out) (IsO.below (by assumption) OC4.out) HJ.out.2.1).mono ?_); rintro e V2 ⟨g2, rfl, hO2, hb2⟩; have hbJ2 := hb2; have hbF2 := below_step (show Below W4.heap.size W4 _ by assumption) hb2; have z2 := hb2.size; (try simp only [alloc_hs, drew_hs] at z2); have G2 := G_of hb2; rw [← HX.out] at hO2; have O2 := Aside0.mk hO2; clear hO2 O1)
        | (go_at_call 22; go_split_ands; (with_reducible refine (RJoin_int.calls gb gc Tb Tc _ (IsO.below (by assumption) OB4.out) (IsO.below (by assumption) OC4.out) HJ.out.2.2.1).mono ?_); rintro e V3 ⟨g3, rfl, hO3, hb3⟩; have hbJ3 := hb3; have hbF3 := below_step (show Below W4.heap.size W4 _ by assumption) hb3; have z3 := hb3.size; (try simp only [alloc_hs, drew_hs] at z3); have G3 := G_of hb3; have O3 := Aside0.mk hO3; clear hO3)
        | (go_at_call 22; go_split_ands; (with_reducible refine (RJoin_int.calls ga g3 Ta (joinO Tb Tc) _ (IsO.below (by assumption) OA4.out) (IsO.below (by repeat (first | with_reducible assumption | with_reducible exact Below.refl _ _ | with_reducible refine below_alloc ?_ _ | with_reducible refine below_step ?_ hbJ4 | with_reducible refine below_step ?_ hbJ3 | with_reducible refine below_step ?_ hbJ2 | with_reducible refine below_step ?_ hbJ1 | with_reducible refine below_drw ?_)) O3.out) HJ.out.2.2.2).mono ?_); rintro e V4 ⟨g4, rfl, hO4, hb4⟩; have hbJ4 := hb4; have hbF4 := below_step (show Below W4.heap.size W4 _ by assumption) hb4; have z4 := hb4.size; (try simp only [alloc_hs, drew_hs] at z4); have G4 := G_of hb4; rw [← HY.out] at hO4; have O4 := Aside0.mk hO4; clear hO4 O3; (try (refine (fun (qW4a : V4.heap[W4.heap.size]? = some (.cells #[.pointer none] 26 (0, 0))) => ?_) ?_; rotate_left; solve | (repeat (first | with_reducible assumption | with_reducible exact heap_new _ _ | with_reducible refine un_drew ?_ | with_reducible exact heap_newD _ _ | with_reducible exact heap_newS _ _ _ _ | with_reducible exact alloc2D _ _ _ | with_reducible exact alloc2E _ _ _ | with_reducible exact (alloc2 _ _ _).1 | with_reducible exact (alloc2 _ _ _).2.1 | with_reducible refine alloc_old ?_ _ | with_reducible refine G4 _ _ ?_ | with_reducible refine G3 _ _ ?_ | with_reducible refine G2 _ _ ?_ | with_reducible refine G1 _ _ ?_ | with_reducible refine set_heap (v := .pointer none) ?_ | with_reducible refine set_other ?_ (by omega))))); (try (have cqW4a := (blk_cell qW4a 0).trans rfl; have fqW4a := blk_frozen qW4a 0; have zqW4a := (Array.getElem?_eq_some_iff.1 qW4a).1)); (try (refine (fun (qW4b : V4.heap[W4.heap.size + 1]? = some (.cells #[.pointer none] 26 (0, 0))) => ?_) ?_; rotate_left; solve | (repeat (first | with_reducible assumption | with_reducible exact heap_new _ _ | with_reducible refine un_drew ?_ | with_reducible exact heap_newD _ _ | with_reducible exact heap_newS _ _ _ _ | with_reducible exact alloc2D _ _ _ | with_reducible exact alloc2E _ _ _ | with_reducible exact (alloc2 _ _ _).1 | with_reducible exact (alloc2 _ _ _).2.1 | with_reducible refine alloc_old ?_ _ | with_reducible refine G4 _ _ ?_ | with_reducible refine G3 _ _ ?_ | with_reducible refine G2 _ _ ?_ | with_reducible refine G1 _ _ ?_ | with_reducible refine set_heap (v := .pointer none) ?_ | with_reducible refine set_other ?_ (by omega))))); (try (have cqW4b := (blk_cell qW4b 0).trans rfl; have fqW4b := blk_frozen qW4b 0; have zqW4b := (Array.getElem?_eq_some_iff.1 qW4b).1)); (try (refine (fun (qV1a : V4.heap[V1.heap.size]? = some (.cells #[.pointer none] 26 (0, 0))) => ?_) ?_; rotate_left; solve | (repeat (first | with_reducible assumption | with_reducible exact heap_new _ _ | with_reducible refine un_drew ?_ | with_reducible exact heap_newD _ _ | with_reducible exact heap_newS _ _ _ _ | with_reducible exact alloc2D _ _ _ | with_reducible exact alloc2E _ _ _ | with_reducible exact (alloc2 _ _ _).1 | with_reducible exact (alloc2 _ _ _).2.1 | with_reducible refine alloc_old ?_ _ | with_reducible refine G4 _ _ ?_ | with_reducible refine G3 _ _ ?_ | with_reducible refine G2 _ _ ?_ | with_reducible refine G1 _ _ ?_ | with_reducible refine set_heap (v := .pointer none) ?_ | with_reducible refine set_other ?_ (by omega))))); (try (have cqV1a := (blk_cell qV1a 0).trans rfl; have fqV1a := blk_frozen qV1a 0; have zqV1a := (Array.getElem?_eq_some_iff.1 qV1a).1)); (try (refine (fun (qV1b : V4.heap[V1.heap.size + 1]? = some (.cells #[.pointer none] 26 (0, 0))) => ?_) ?_; rotate_left; solve | (repeat (first | with_reducible assumption | with_reducible exact heap_new _ _ | with_reducible refine un_drew ?_ | with_reducible exact heap_newD _ _ | with_reducible exact heap_newS _ _ _ _ | with_reducible exact alloc2D _ _ _ | with_reducible exact alloc2E _ _ _ | with_reducible exact (alloc2 _ _ _).1 | with_reducible exact (alloc2 _ _ _).2.1 | with_reducible refine alloc_old ?_ _ | with_reducible refine G4 _ _ ?_ | with_reducible refine G3 _ _ ?_ | with_reducible refine G2 _ _ ?_ | with_reducible refine G1 _ _ ?_ | with_reducible refine set_heap (v := .pointer none) ?_ | with_reducible refine set_other ?_ (by omega))))); (try (have cqV1b := (blk_cell qV1b 0).trans rfl; have fqV1b := blk_frozen qV1b 0; have zqV1b := (Array.getElem?_eq_some_iff.1 qV1b).1)); (try (refine (fun (qV2a : V4.heap[V2.heap.size]? = some (.cells #[.pointer none] 26 (0, 0))) => ?_) ?_; rotate_left; solve | (repeat (first | with_reducible assumption | with_reducible exact heap_new _ _ | with_reducible refine un_drew ?_ | with_reducible exact heap_newD _ _ | with_reducible exact heap_newS _ _ _ _ | with_reducible exact alloc2D _ _ _ | with_reducible exact alloc2E _ _ _ | with_reducible exact (alloc2 _ _ _).1 | with_reducible exact (alloc2 _ _ _).2.1 | with_reducible refine alloc_old ?_ _ | with_reducible refine G4 _ _ ?_ | with_reducible refine G3 _ _ ?_ | with_reducible refine G2 _ _ ?_ | with_reducible refine G1 _ _ ?_ | with_reducible refine set_heap (v := .pointer none) ?_ | with_reducible refine set_other ?_ (by omega))))); (try (have cqV2a := (blk_cell qV2a 0).trans rfl; have fqV2a := blk_frozen qV2a 0; have zqV2a := (Array.getElem?_eq_some_iff.1 qV2a).1)); (try (refine (fun (qV2b : V4.heap[V2.heap.size + 1]? = some (.cells #[.pointer none] 26 (0, 0))) => ?_) ?_; rotate_left; solve | (repeat (first | with_reducible assumption | with_reducible exact heap_new _ _ | with_reducible refine un_drew ?_ | with_reducible exact heap_newD _ _ | with_reducible exact heap_newS _ _ _ _ | with_reducible exact alloc2D _ _ _ | with_reducible exact alloc2E _ _ _ | with_reducible exact (alloc2 _ _ _).1 | with_reducible exact (alloc2 _ _ _).2.1 | with_reducible refine alloc_old ?_ _ | with_reducible refine G4 _ _ ?_ | with_reducible refine G3 _ _ ?_ | with_reducible refine G2 _ _ ?_ | with_reducible refine G1 _ _ ?_ | with_reducible refine set_heap (v := .pointer none) ?_ | with_reducible refine set_other ?_ (by omega))))); (try (have cqV2b := (blk_cell qV2b 0).trans rfl; have fqV2b := blk_frozen qV2b 0; have zqV2b := (Array.getElem?_eq_some_iff.1 qV2b).1)); (try (refine (fun (qV3a : V4.heap[V3.heap.size]? = some (.cells #[.pointer none] 26 (0, 0))) => ?_) ?_; rotate_left; solve | (repeat (first | with_reducible assumption | with_reducible exact heap_new _ _ | with_reducible refine un_drew ?_ | with_reducible exact heap_newD _ _ | with_reducible exact heap_newS _ _ _ _ | with_reducible exact alloc2D _ _ _ | with_reducible exact alloc2E _ _ _ | with_reducible exact (alloc2 _ _ _).1 | with_reducible exact (alloc2 _ _ _).2.1 | with_reducible refine alloc_old ?_ _ | with_reducible refine G4 _ _ ?_ | with_reducible refine G3 _ _ ?_ | with_reducible refine G2 _ _ ?_ | with_reducible refine G1 _ _ ?_ | with_reducible refine set_heap (v := .pointer none) ?_ | with_reducible refine set_other ?_ (by omega))))); (try (have cqV3a := (blk_cell qV3a 0).trans rfl; have fqV3a := blk_frozen qV3a 0; have zqV3a := (Array.getElem?_eq_some_iff.1 qV3a).1)); (try (refine (fun (qV3b : V4.heap[V3.heap.size + 1]? = some (.cells #[.pointer none] 26 (0, 0))) => ?_) ?_; rotate_left; solve | (repeat (first | with_reducible assumption | with_reducible exact heap_new _ _ | with_reducible refine un_drew ?_ | with_reducible exact heap_newD _ _ | with_reducible exact heap_newS _ _ _ _ | with_reducible exact alloc2D _ _ _ | with_reducible exact alloc2E _ _ _ | with_reducible exact (alloc2 _ _ _).1 | with_reducible exact (alloc2 _ _ _).2.1 | with_reducible refine alloc_old ?_ _ | with_reducible refine G4 _ _ ?_ | with_reducible refine G3 _ _ ?_ | with_reducible refine G2 _ _ ?_ | with_reducible refine G1 _ _ ?_ | with_reducible refine set_heap (v := .pointer none) ?_ | with_reducible refine set_other ?_ (by omega))))); (try (have cqV3b := (blk_cell qV3b 0).trans rfl; have fqV3b := blk_frozen qV3b 0; have zqV3b := (Array.getElem?_eq_some_iff.1 qV3b).1)); (try (refine (fun (yW4V1a : W4.heap.size < V1.heap.size) => ?_) ?_; rotate_left; solve | omega)); (try (refine (fun (yW4V1b : W4.heap.size + 1 < V1.heap.size) => ?_) ?_; rotate_left; solve | omega)); (try (refine (fun (yW4V2a : W4.heap.size < V2.heap.size) => ?_) ?_; rotate_left; solve | omega)); (try (refine (fun (yW4V2b : W4.heap.size + 1 < V2.heap.size) => ?_) ?_; rotate_left; solve | omega)); (try (refine (fun (yW4V3a : W4.heap.size < V3.heap.size) => ?_) ?_; rotate_left; solve | omega)); (try (refine (fun (yW4V3b : W4.heap.size + 1 < V3.heap.size) => ?_) ?_; rotate_left; solve | omega)); (try (refine (fun (yV1V2a : V1.heap.size < V2.heap.size) => ?_) ?_; rotate_left; solve | omega)); (try (refine (fun (yV1V2b : V1.heap.size + 1 < V2.heap.size) => ?_) ?_; rotate_left; solve | omega)); (try (refine (fun (yV1V3a : V1.heap.size < V3.heap.size) => ?_) ?_; rotate_left; solve | omega)); (try (refine (fun (yV1V3b : V1.heap.size + 1 < V3.heap.size) => ?_) ?_; rotate_left; solve | omega)); (try (refine (fun (yV2V3a : V2.heap.size < V3.heap.size) => ?_) ?_; rotate_left; solve | omega)); (try (refine (fun (yV2V3b : V2.heap.size + 1 < V3.heap.size) => ?_) ?_; rotate_left; solve | omega)); (try clear G1); (try clear G2); (try clear G3); clear G4)
        | fail)
    all_goals go_wp2
    all_goals go_meet
    all_goals (case rel => exact ⟨⟨_, _, g2, g4, rfl, rfl, by omega, by omega, by (repeat (first | with_reducible assumption | with_reducible exact heap_new _ _ | with_reducible refine un_drew ?_ | with_reducible exact heap_newD _ _ | with_reducible exact heap_newS _ _ _ _ | with_reducible exact alloc2D _ _ _ | with_reducible exact alloc2E _ _ _ | with_reducible exact (alloc2 _ _ _).1 | with_reducible exact (alloc2 _ _ _).2.1 | with_reducible refine alloc_old ?_ _ | with_reducible refine G4 _ _ ?_ | with_reducible refine G3 _ _ ?_ | with_reducible refine G2 _ _ ?_ | with_reducible refine G1 _ _ ?_ | with_reducible refine set_heap (v := .pointer none) ?_ | with_reducible refine set_other ?_ (by omega))), by (repeat (first | with_reducible assumption | with_reducible exact heap_new _ _ | with_reducible refine un_drew ?_ | with_reducible exact heap_newD _ _ | with_reducible exact heap_newS _ _ _ _ | with_reducible exact alloc2D _ _ _ | with_reducible exact alloc2E _ _ _ | with_reducible exact (alloc2 _ _ _).1 | with_reducible exact (alloc2 _ _ _).2.1 | with_reducible refine alloc_old ?_ _ | with_reducible refine G4 _ _ ?_ | with_reducible refine G3 _ _ ?_ | with_reducible refine G2 _ _ ?_ | with_reducible refine G1 _ _ ?_ | with_reducible refine set_heap (v := .pointer none) ?_ | with_reducible refine set_other ?_ (by omega))), by (repeat (first | with_reducible exact O2.out | with_reducible exact O4.out | with_reducible refine IsO.alloc1 ?_ _ | with_reducible refine IsO.below hbJ4 ?_ | with_reducible refine IsO.below hbJ3 ?_ | with_reducible refine IsO.set _ (by (repeat (first | with_reducible assumption | with_reducible exact heap_new _ _ | with_reducible refine un_drew ?_ | with_reducible exact heap_newD _ _ | with_reducible exact heap_newS _ _ _ _ | with_reducible exact alloc2D _ _ _ | with_reducible exact alloc2E _ _ _ | with_reducible exact (alloc2 _ _ _).1 | with_reducible exact (alloc2 _ _ _).2.1 | with_reducible refine alloc_old ?_ _ | with_reducible refine G4 _ _ ?_ | with_reducible refine G3 _ _ ?_ | with_reducible refine G2 _ _ ?_ | with_reducible refine G1 _ _ ?_ | with_reducible refine set_heap (v := .pointer none) ?_ | with_reducible refine set_other ?_ (by omega)))) (by decide) ?_)), by (repeat (first | with_reducible exact O2.out | with_reducible exact O4.out | with_reducible refine IsO.alloc1 ?_ _ | with_reducible refine IsO.below hbJ4 ?_ | with_reducible refine IsO.below hbJ3 ?_ | with_reducible refine IsO.set _ (by (repeat (first | with_reducible assumption | with_reducible exact heap_new _ _ | with_reducible refine un_drew ?_ | with_reducible exact heap_newD _ _ | with_reducible exact heap_newS _ _ _ _ | with_reducible exact alloc2D _ _ _ | with_reducible exact alloc2E _ _ _ | with_reducible exact (alloc2 _ _ _).1 | with_reducible exact (alloc2 _ _ _).2.1 | with_reducible refine alloc_old ?_ _ | with_reducible refine G4 _ _ ?_ | with_reducible refine G3 _ _ ?_ | with_reducible refine G2 _ _ ?_ | with_reducible refine G1 _ _ ?_ | with_reducible refine set_heap (v := .pointer none) ?_ | with_reducible refine set_other ?_ (by omega)))) (by decide) ?_)), by (repeat (first | with_reducible exact hbF4 | with_reducible refine below_alloc ?_ _ | with_reducible refine below_set ?_ (by omega)))⟩⟩)
  case rest =>
    obtain ⟨b16, b17, gx, gy, rfl, rfl, hp16, hp17, k16, k17, hOx, hOy, hbR⟩ := hcut.out
    have BR := Aside0.mk (below_step B4.out hbR)
    have OX := Aside0.mk hOx
    have OY := Aside0.mk hOy
    have y16 : wc.cell? ⟨b16, 0, none⟩ = some (.pointer gx) := (blk_cell k16 0).trans rfl
    have y17 : wc.cell? ⟨b17, 0, none⟩ = some (.pointer gy) := (blk_cell k17 0).trans rfl
    have K16 := Aside0.mk k16
    have K17 := Aside0.mk k17
    clear hcut hOx hOy hbR k16 k17 x1 x2 x3 OA4 OB4 OC4
    have nx : lenO X ≤ 4611686018427387904 := by have h := HF.out.nx; omega
    have ny : lenO Y ≤ 4611686018427387904 := by have h := HF.out.ny; omega
    have n8 : lenO X * 8 ≤ 140737488351232 := by have h := HF.out.nx; omega
    have NX := Aside0.mk nx
    have NY := Aside0.mk ny
    have N8 := Aside0.mk n8
    have hXY : decide (listO X = listO Y) = true := by rw [HF.out.lx, HF.out.ly]; simp
    have HXY := Aside0.mk hXY
    have hlx : (listO X).length = N := by rw [listO_len, HF.out.nx]
    have HLX := Aside0.mk hlx
    have hlk : (l ++ (m ++ k)).length = N := by rw [← List.append_assoc, ← HF.out.lx]; exact hlx
    have HLK := Aside0.mk hlk
    have hNb : N ≤ 4611686018427387904 := by omega
    have HNB := Aside0.mk hNb
    have hll : lens [l, m, k] * 8 ≤ 140737488355328 := by simp only [lens]; rw [HL1.out, HL2.out, HL3.out]; omega
    have HLL := Aside0.mk hll
    have hXk : decide (listO X = l ++ (m ++ k)) = true := by rw [HF.out.lx, List.append_assoc]; simp
    have HXK := Aside0.mk hXk
    clear nx ny n8 hXY hlx hlk hNb hll hXk
    go_wp2_with (first
      | (go_at_call 24; with_reducible refine (Equal.calls gx gy X Y _ OX.out OY.out NX.out NY.out).mono ?_; rintro e W1 ⟨rfl, hb⟩; rw [HXY.out]; have R1 := Aside0.mk (below_step BR.out hb); have S1 := Aside0.mk hb; have K161 := Aside0.mk (blk_below K16.out hb); have K171 := Aside0.mk (blk_below K17.out hb); have OX1 := Aside0.mk (IsO.below hb OX.out); have OY1 := Aside0.mk (IsO.below hb OY.out); have x16 : W1.cell? ⟨b16, 0, none⟩ = some (.pointer gx) := (blk_cell K161.out 0).trans rfl; clear hb)
      | (go_at_call 26; with_reducible refine (List_int.calls gx X _ OX1.out N8.out).mono ?_; rintro e W2 ⟨v1, rfl, hr1, _, hb⟩; rw [HLX.out] at hr1; obtain ⟨A4, c4, rfl, hc4, hC4⟩ := own_C_int hr1 HLX.out; have R2 := Aside0.mk (below_step R1.out hb); have S2 := Aside0.mk hb; have K162 := Aside0.mk (blk_below K161.out hb); have K172 := Aside0.mk (blk_below K171.out hb); have OX2 := Aside0.mk (IsO.below hb OX1.out); have OY2 := Aside0.mk (IsO.below hb OY1.out); have HC4 := Aside0.mk hC4; clear hb hr1 hC4)
      | fail)
    have hbn : Below w.heap.size w (W2.alloc (.cells #[.slice A1 n1 c1, .slice A2 n2 c2, .slice A3 n3 c3] 22)) := R2.out.alloc R2.out.size _
    have sbn : Below W2.heap.size W2 (W2.alloc (.cells #[.slice A1 n1 c1, .slice A2 n2 c2, .slice A3 n3 c3] 22)) := (Below.refl _ _).alloc (Nat.le_refl _) _
    have hN3 := heap_new W2 (.cells #[.slice A1 n1 c1, .slice A2 n2 c2, .slice A3 n3 c3] 22)
    obtain ⟨W3, hW3⟩ : ∃ W, W2.alloc (.cells #[.slice A1 n1 c1, .slice A2 n2 c2, .slice A3 n3 c3] 22) = W := ⟨_, rfl⟩
    rw [hW3] at hbn sbn hN3
    rw [hW3]
    clear hW3
    have hcc := concat_int.calls (some ⟨W2.heap.size, 0, none⟩) 3 [l, m, k] W3 (three_C hN3 HL1.out HL2.out HL3.out hc1 hc2 hc3 (Kd.C_below HC1.out hbn) (Kd.C_below HC2.out hbn) (Kd.C_below HC3.out hbn)) HLL.out
    rw [show [l, m, k].length = 3 from rfl] at hcc
    refine hcc.mono ?_
    clear hcc hN3
    rintro e W5 ⟨v5, rfl, hR5, hb⟩
    rw [show [l, m, k].flatten = l ++ (m ++ k) by simp] at hR5
    obtain ⟨A5, c5, rfl, hc5, hC5⟩ := Kd.R_reads hR5
    rw [HLK.out] at hc5
    rw [HLK.out] at hC5
    rw [HLK.out]
    have SB := Aside0.mk (below_step sbn hb)
    have HC5 := Aside0.mk hC5
    have HC45 := Aside0.mk (Kd.C_below HC4.out SB.out)
    have R5 := Aside0.mk (below_step hbn hb)
    have K165 := Aside0.mk (blk_below K162.out SB.out)
    have K175 := Aside0.mk (blk_below K172.out SB.out)
    have OX5 := Aside0.mk (IsO.below SB.out OX2.out)
    have OY5 := Aside0.mk (IsO.below SB.out OY2.out)
    clear hb hbn sbn hR5 hC5 HC4 K161 K171 K162 K172 OX1 OX2 OY1 OY2 y16 y17 S1 S2
    go_wp2_with (first
      | (go_at_call 25; with_reducible refine (sEq_int.calls A4 c4 N (listO X) A5 c5 N (l ++ (m ++ k)) _ HC45.out HLX.out hc4 HC5.out HLK.out hc5 HNB.out).mono ?_; rintro e W6 ⟨rfl, hb⟩; rw [HXK.out]; have R6 := Aside0.mk (below_step R5.out hb); have K166 := Aside0.mk (blk_below K165.out hb); have K176 := Aside0.mk (blk_below K175.out hb); have OX6 := Aside0.mk (IsO.below hb OX5.out); have OY6 := Aside0.mk (IsO.below hb OY5.out); have x166 : W6.cell? ⟨b16, 0, none⟩ = some (.pointer gx) := (blk_cell K166.out 0).trans rfl; clear hb)
      | (go_at_call 28; with_reducible refine (Len_int.calls gx X _ OX6.out NX.out).mono ?_; rintro e W7 ⟨rfl, hb⟩; rw [HF.out.nx]; have R7 := Aside0.mk (below_step R6.out hb); have K167 := Aside0.mk (blk_below K166.out hb); have K177 := Aside0.mk (blk_below K176.out hb); have OX7 := Aside0.mk (IsO.below hb OX6.out); have OY7 := Aside0.mk (IsO.below hb OY6.out); have x167 : W7.cell? ⟨b16, 0, none⟩ = some (.pointer gx) := (blk_cell K167.out 0).trans rfl; clear hb)
      | fail)
    obtain ⟨a, ha⟩ : ∃ a : Nat, at_ % ((N : Int) + 1) = a := ⟨(at_ % ((N : Int) + 1)).toNat, by have := Int.emod_nonneg at_ (show (N : Int) + 1 ≠ 0 by omega); omega⟩
    have haN : a ≤ N := by have := Int.emod_lt_of_pos at_ (show (0 : Int) < (N : Int) + 1 by omega); omega
    rw [ha]
    clear ha
    refine (RSplit_int.calls gx a X _ OX7.out NX.out).mono ?_
    rintro e W8 ⟨gp, gq, rfl, hP, hQ, hb⟩
    obtain ⟨P, hPe⟩ : ∃ P, (splitO X (a : Int)).1 = P := ⟨_, rfl⟩
    obtain ⟨Q, hQe⟩ : ∃ Q, (splitO X (a : Int)).2 = Q := ⟨_, rfl⟩
    have hpl : lenO P = a := by rw [← hPe, ← listO_len, (splitO_list _ _).1, List.length_take, HLX.out]; omega
    have hql : lenO P + lenO Q ≤ 4611686018427387904 := by rw [← hPe, ← hQe, splitO_len]; exact NX.out
    have hpq : listO (joinO P Q) = listO Y := by
      rw [← hPe, ← hQe, joinO_list, (splitO_list _ _).1, (splitO_list _ _).2, List.take_append_drop, HF.out.lx, HF.out.ly]
    rw [hPe] at hP
    rw [hQe] at hQ
    have SB8 := Aside0.mk hb
    have hbP := Aside0.mk hP
    have hbQ := Aside0.mk hQ
    have R8 := Aside0.mk (below_step R7.out hb)
    have K168 := Aside0.mk (blk_below K167.out hb)
    have K178 := Aside0.mk (blk_below K177.out hb)
    have OX8 := Aside0.mk (IsO.below hb OX7.out)
    have OY8 := Aside0.mk (IsO.below hb OY7.out)
    have HPL := Aside0.mk hpl
    have HQL := Aside0.mk hql
    have HPQ := Aside0.mk (show decide (listO (joinO P Q) = listO Y) = true by rw [hpq]; simp)
    have hpn : lenO P ≤ 4611686018427387904 := by omega
    have HPN := Aside0.mk hpn
    have hpqn : lenO (joinO P Q) ≤ 4611686018427387904 := by rw [joinO_len]; exact hql
    have HPQN := Aside0.mk hpqn
    clear hb hP hQ hPe hQe hpl hql hpq hpn hpqn x16 x166 x167 K165 K175 K166 K176 K167 K177 OX5 OX6 OX7 OY5 OY6 OY7
    obtain ⟨k20, k21, hb9⟩ := alloc2 W8 (.cells #[.pointer gp] 26) (.cells #[.pointer gq] 26)
    obtain ⟨W9, hW9⟩ : ∃ W, (W8.alloc (.cells #[.pointer gp] 26)).alloc (.cells #[.pointer gq] 26) = W := ⟨_, rfl⟩
    have HW9 := Aside0.mk hW9
    rw [hW9] at k20 k21 hb9
    have x20 : W9.cell? ⟨W8.heap.size, 0, none⟩ = some (.pointer gp) := (blk_cell k20 0).trans rfl
    have x21 : W9.cell? ⟨W8.heap.size + 1, 0, none⟩ = some (.pointer gq) := (blk_cell k21 0).trans rfl
    have x16 : W9.cell? ⟨b16, 0, none⟩ = some (.pointer gx) := (blk_cell (blk_below K168.out hb9) 0).trans rfl
    have x17 : W9.cell? ⟨b17, 0, none⟩ = some (.pointer gy) := (blk_cell (blk_below K178.out hb9) 0).trans rfl
    have R9 := Aside0.mk (below_step R8.out hb9)
    have OX9 := Aside0.mk (IsO.below hb9 OX8.out)
    have OY9 := Aside0.mk (IsO.below hb9 OY8.out)
    have OP9 := Aside0.mk (IsO.below hb9 hbP.out)
    have OQ9 := Aside0.mk (IsO.below hb9 hbQ.out)
    clear k20 k21 hb9 hW9 OX8 OY8 K168 K178
    go_upto_region 10 with fail
    rw [HW9.out]
    clear HW9
    obtain ⟨i, hi⟩ : ∃ i : Nat, from_ % ((N : Int) + 1) = i := ⟨(from_ % ((N : Int) + 1)).toNat, by have := Int.emod_nonneg from_ (show (N : Int) + 1 ≠ 0 by omega); omega⟩
    have hiN : i ≤ N := by have := Int.emod_lt_of_pos from_ (show (0 : Int) < (N : Int) + 1 by omega); omega
    obtain ⟨j, hj⟩ : ∃ j : Nat, to_ % ((N : Int) + 1) = j := ⟨(to_ % ((N : Int) + 1)).toNat, by have := Int.emod_nonneg to_ (show (N : Int) + 1 ≠ 0 by omega); omega⟩
    have hjN : j ≤ N := by have := Int.emod_lt_of_pos to_ (show (0 : Int) < (N : Int) + 1 by omega); omega
    have wN : IntKind.i64.wrap ((N : Int) + 1) = (N : Int) + 1 := IntWalk.i64_in _ (by omega)
    have nz : ¬ ((N : Int) + 1 = 0) := by omega
    have nb : (((N : Int) + 1) == 0) = false := by simp; omega
    have t1 : Int.tmod from_ ((N : Int) + 1) = (i : Int) := by rw [Int.tmod_eq_emod_of_nonneg hf0]; exact hi
    have t2 : Int.tmod to_ ((N : Int) + 1) = (j : Int) := by rw [Int.tmod_eq_emod_of_nonneg ht0]; exact hj
    have u1 : IntKind.i64.wrap (i : Int) = (i : Int) := IntWalk.i64_in _ (by omega)
    have u2 : IntKind.i64.wrap (j : Int) = (j : Int) := IntWalk.i64_in _ (by omega)
    have u3 : IntKind.i64.wrap (from_ % ((N : Int) + 1)) = (i : Int) := by rw [hi]; exact u1
    have u4 : IntKind.i64.wrap (to_ % ((N : Int) + 1)) = (j : Int) := by rw [hj]; exact u2
    have u5 : IntKind.i64.wrap (Int.tmod from_ ((N : Int) + 1)) = (i : Int) := by rw [t1]; exact u1
    have u6 : IntKind.i64.wrap (Int.tmod to_ ((N : Int) + 1)) = (j : Int) := by rw [t2]; exact u2
    have u7 : IntKind.i64.wrap from_ = from_ := IntWalk.i64_in _ (by omega)
    have u8 : IntKind.i64.wrap to_ = to_ := IntWalk.i64_in _ (by omega)
    go_region_held3 (fun W' => Below W9.heap.size W9 W' ∧ W'.cell? ⟨W8.heap.size, 0, none⟩ = some (.pointer gp) ∧ W'.cell? ⟨W8.heap.size + 1, 0, none⟩ = some (.pointer gq) ∧ W'.cell? ⟨b16, 0, none⟩ = some (.pointer gx) ∧ W'.cell? ⟨b17, 0, none⟩ = some (.pointer gy))
      (first | exact ⟨below_drew (Below.refl _ _), x20, x21, x16, x17⟩ | exact ⟨Below.refl _ _, x20, x21, x16, x17⟩ | (go_split_ands; exact ⟨below_step (by assumption) hb1, pw_cell_below hb1 (by assumption), pw_cell_below hb1 (by assumption), pw_cell_below hb1 (by assumption), pw_cell_below hb1 (by assumption)⟩))
      (first
        | (go_at_call 28; go_split_ands; refine (Len_int.calls gx X _ (IsO.below (by assumption) OX9.out) NX.out).mono ?_; rintro e W1 ⟨rfl, hb1⟩; rw [HF.out.nx]))
    have q0 : Below W9.heap.size W9 W1 := by go_split_ands; assumption
    have q1 : W1.cell? ⟨W8.heap.size, 0, none⟩ = some (.pointer gp) := by go_split_ands; assumption
    have q2 : W1.cell? ⟨W8.heap.size + 1, 0, none⟩ = some (.pointer gq) := by go_split_ands; assumption
    have q3 : W1.cell? ⟨b16, 0, none⟩ = some (.pointer gx) := by go_split_ands; assumption
    have q4 : W1.cell? ⟨b17, 0, none⟩ = some (.pointer gy) := by go_split_ands; assumption
    clear hb1
    generalize W1 = V0 at *
    clear wN nz nb t1 t2 u1 u2 u3 u4 u5 u6 u7 u8 x20 x21 x16 x17
    obtain ⟨mi, hmi⟩ : ∃ mi : Nat, mn (i : Int) (a : Int) = mi := by
      rcases Nat.le_total i a with h | h
      · exact ⟨i, by unfold mn; split <;> omega⟩
      · exact ⟨a, by unfold mn; split <;> omega⟩
    have hma : mi ≤ a := by unfold mn at hmi; split at hmi <;> omega
    have wm : IntKind.i64.wrap ((mi : Int) + (j : Int)) = (mi : Int) + (j : Int) := IntWalk.i64_in _ (by omega)
    obtain ⟨e2, he2⟩ : ∃ e2 : Int, mn (a : Int) ((mi : Int) + (j : Int)) = e2 := ⟨_, rfl⟩
    have hpp := part_part X N a mi j e2 HF.out.nx hma haN he2.symm
    obtain ⟨C1, hC1⟩ : ∃ C, partO X (mi : Int) (a : Int) = C := ⟨_, rfl⟩
    obtain ⟨C2, hC2⟩ : ∃ C, partO C1 0 (j : Int) = C := ⟨_, rfl⟩
    obtain ⟨C3, hC3⟩ : ∃ C, partO X (mi : Int) e2 = C := ⟨_, rfl⟩
    rw [hC1, hC2, hC3] at hpp
    have l1 : lenO C1 ≤ 4611686018427387904 := by rw [← hC1]; exact part_le X _ _ NX.out
    have l2 : lenO C2 ≤ 4611686018427387904 := by rw [← hC2]; exact part_le C1 _ _ l1
    have l3 : lenO C3 ≤ 4611686018427387904 := by rw [← hC3]; exact part_le X _ _ NX.out
    have HPP := Aside0.mk hpp
    have D1 := Aside0.mk hC1
    have D2 := Aside0.mk hC2
    have D3 := Aside0.mk hC3
    have LL1 := Aside0.mk l1
    have LL2 := Aside0.mk l2
    have LL3 := Aside0.mk l3
    clear hpp hC1 hC2 hC3 l1 l2 l3
    clear d1 d1' d2 d2' d3 d3' ha0 ha1 hf0 hf1 ht0 ht1 hi hj
    go_upto_region 11 with fail
    refine wp_region_held_drew (S := fun W' => Below W9.heap.size W9 W' ∧ W'.cell? ⟨W8.heap.size, 0, none⟩ = some (.pointer gp) ∧ W'.cell? ⟨W8.heap.size + 1, 0, none⟩ = some (.pointer gq) ∧ W'.cell? ⟨b16, 0, none⟩ = some (.pointer gx) ∧ W'.cell? ⟨b17, 0, none⟩ = some (.pointer gy)) (by kernel_rfl) ?_ (fun hHeld => ?_)
    · exact ⟨below_drew q0, q1, q2, q3, q4⟩
    refine wpAnyH_take (i := 0) (oi := { dst := some 94, op := Go.Op.load 26 (Go.Operand.tmp 20), type := 26, pos := "law.go:216", after := #[], guard := none }) (v := ?_) rfl (by kernel_rfl) (by kernel_rfl) (by kernel_rfl) (fun _ _ _ h => h) (Or.inl ⟨by rfl, ?_⟩) (by assumption) ?_
    rotate_left
    · (intro w hSw; (try dsimp only at hSw); go_simp; first | done | with_reducible rfl)
    (try simp only [Act.put, List.setIfInBounds_toArray, List.set_cons_zero, List.set_cons_succ])
    refine wpAnyH_take (i := 2) (oi := { dst := some 96, op := Go.Op.move (Go.Operand.tmp 19), type := 3, pos := "law.go:216", after := #[], guard := none }) (v := ?_) rfl (by kernel_rfl) (by kernel_rfl) (by kernel_rfl) (fun _ _ _ h => h) (Or.inl ⟨by rfl, ?_⟩) (by assumption) ?_
    rotate_left
    · (intro w hSw; (try dsimp only at hSw); go_simp; first | done | with_reducible rfl)
    (try simp only [Act.put, List.setIfInBounds_toArray, List.set_cons_zero, List.set_cons_succ])
    refine wpAnyH_ready (rs := [1]) (by kernel_rfl) (by simp) ?_
    refine AllReadyH.cons (o := { dst := some 95, op := Go.Op.call { callee := Go.Callee.value (Go.Operand.func 28), args := #[Go.Operand.tmp 94], argTypes := #[26] }, type := 3, pos := "law.go:216", after := #[{ on := 0, ground := Go.Ground.data }], guard := none }) rfl (fun K hK => ?_) AllReadyH.nil
    go_simp
    go_at_call 28; go_split_ands; with_reducible refine (Len_int.calls gp P _ (IsO.below (by assumption) OP9.out) HPN.out).mono ?_; rintro e V1 ⟨rfl, hb1⟩; rw [HPL.out]
    try go_wp2_with fail
    refine hK.out _ _ ?_ (fun hHeld => ?_)
    · (try dsimp only); (go_split_ands; exact ⟨below_step (by assumption) hb1, pw_cell_below hb1 (by assumption), pw_cell_below hb1 (by assumption), pw_cell_below hb1 (by assumption), pw_cell_below hb1 (by assumption)⟩)
    clear hK K
    (try simp only [Act.put, List.setIfInBounds_toArray, List.set_cons_zero, List.set_cons_succ])
    refine wpAnyH_take (i := 3) (oi := { dst := some 97, op := Go.Op.binOp Go.BinOp.eql 3 (Go.Operand.tmp 95) (Go.Operand.tmp 96) 3, type := 4, pos := "law.go:216", after := #[{ on := 1, ground := Go.Ground.data }, { on := 2, ground := Go.Ground.data }], guard := none }) (v := ?_) rfl (by kernel_rfl) (by kernel_rfl) (by kernel_rfl) (fun _ _ _ h => h) (Or.inl ⟨by rfl, ?_⟩) (by assumption) ?_
    rotate_left
    · (intro w hSw; (try dsimp only at hSw); go_simp; first | done | with_reducible rfl)
    (try simp only [Act.put, List.setIfInBounds_toArray, List.set_cons_zero, List.set_cons_succ])
    refine wpAnyH_take (i := 4) (oi := { dst := some 98, op := Go.Op.move (Go.Operand.tmp 97), type := 4, pos := "law.go:216", after := #[{ on := 3, ground := Go.Ground.data }, { on := 1, ground := Go.Ground.chain }], guard := none }) (v := ?_) rfl (by kernel_rfl) (by kernel_rfl) (by kernel_rfl) (fun _ _ _ h => h) (Or.inl ⟨by rfl, ?_⟩) (by assumption) ?_
    rotate_left
    · (intro w hSw; (try dsimp only at hSw); go_simp; first | done | with_reducible rfl)
    (try simp only [Act.put, List.setIfInBounds_toArray, List.set_cons_zero, List.set_cons_succ])
    refine wpAnyH_take (i := 5) (oi := { dst := some 99, op := Go.Op.load 26 (Go.Operand.tmp 20), type := 26, pos := "law.go:216", after := #[{ on := 4, ground := Go.Ground.guard }], guard := some (4, true) }) (v := ?_) rfl (by kernel_rfl) (by kernel_rfl) (by kernel_rfl) (fun _ _ _ h => h) (Or.inl ⟨by rfl, ?_⟩) (by assumption) ?_
    rotate_left
    · (intro w hSw; (try dsimp only at hSw); go_simp; first | done | with_reducible rfl)
    (try simp only [Act.put, List.setIfInBounds_toArray, List.set_cons_zero, List.set_cons_succ])
    refine wpAnyH_take (i := 6) (oi := { dst := some 100, op := Go.Op.load 26 (Go.Operand.tmp 21), type := 26, pos := "law.go:216", after := #[{ on := 4, ground := Go.Ground.guard }], guard := some (4, true) }) (v := ?_) rfl (by kernel_rfl) (by kernel_rfl) (by kernel_rfl) (fun _ _ _ h => h) (Or.inl ⟨by rfl, ?_⟩) (by assumption) ?_
    rotate_left
    · (intro w hSw; (try dsimp only at hSw); go_simp; first | done | with_reducible rfl)
    (try simp only [Act.put, List.setIfInBounds_toArray, List.set_cons_zero, List.set_cons_succ])
    refine wpAnyH_take (i := 8) (oi := { dst := some 102, op := Go.Op.load 26 (Go.Operand.tmp 17), type := 26, pos := "law.go:216", after := #[{ on := 4, ground := Go.Ground.guard }], guard := some (4, true) }) (v := ?_) rfl (by kernel_rfl) (by kernel_rfl) (by kernel_rfl) (fun _ _ _ h => h) (Or.inl ⟨by rfl, ?_⟩) (by assumption) ?_
    rotate_left
    · (intro w hSw; (try dsimp only at hSw); go_simp; first | done | with_reducible rfl)
    (try simp only [Act.put, List.setIfInBounds_toArray, List.set_cons_zero, List.set_cons_succ])
    refine wpAnyH_take (i := 9) (oi := { dst := some 103, op := Go.Op.move (Go.Operand.tmp 18), type := 44, pos := "law.go:216", after := #[{ on := 4, ground := Go.Ground.guard }], guard := some (4, true) }) (v := ?_) rfl (by kernel_rfl) (by kernel_rfl) (by kernel_rfl) (fun _ _ _ h => h) (Or.inl ⟨by rfl, ?_⟩) (by assumption) ?_
    rotate_left
    · (intro w hSw; (try dsimp only at hSw); go_simp; first | done | with_reducible rfl)
    (try simp only [Act.put, List.setIfInBounds_toArray, List.set_cons_zero, List.set_cons_succ])
    refine wpAnyH_ready (rs := [7]) (by kernel_rfl) (by simp) ?_
    refine AllReadyH.cons (o := { dst := some 101, op := Go.Op.call { callee := Go.Callee.value (Go.Operand.func 22), args := #[Go.Operand.tmp 99, Go.Operand.tmp 100], argTypes := #[26, 26] }, type := 26, pos := "law.go:216", after := #[{ on := 5, ground := Go.Ground.data }, { on := 6, ground := Go.Ground.data }, { on := 4, ground := Go.Ground.chain }, { on := 4, ground := Go.Ground.guard }], guard := some (4, true) }) rfl (fun K hK => ?_) AllReadyH.nil
    go_simp
    go_at_call 22; go_split_ands; with_reducible refine (RJoin_int.calls gp gq P Q _ (IsO.below (by assumption) OP9.out) (IsO.below (by assumption) OQ9.out) HQL.out).mono ?_; rintro e V2 ⟨g1, rfl, hO1, hb1⟩; have O1 := Aside0.mk hO1; clear hO1
    try go_wp2_with fail
    refine hK.out _ _ ?_ (fun hHeld => ?_)
    · (try dsimp only); (go_split_ands; exact ⟨below_step (by assumption) hb1, pw_cell_below hb1 (by assumption), pw_cell_below hb1 (by assumption), pw_cell_below hb1 (by assumption), pw_cell_below hb1 (by assumption)⟩)
    clear hK K
    (try simp only [Act.put, List.setIfInBounds_toArray, List.set_cons_zero, List.set_cons_succ])
    refine wpAnyH_ready (rs := [10]) (by kernel_rfl) (by simp) ?_
    refine AllReadyH.cons (o := { dst := some 104, op := Go.Op.call { callee := Go.Callee.value (Go.Operand.func 24), args := #[Go.Operand.tmp 101, Go.Operand.tmp 102, Go.Operand.tmp 103], argTypes := #[26, 26, 44] }, type := 4, pos := "law.go:216", after := #[{ on := 7, ground := Go.Ground.data }, { on := 8, ground := Go.Ground.data }, { on := 9, ground := Go.Ground.data }, { on := 7, ground := Go.Ground.chain }, { on := 4, ground := Go.Ground.guard }], guard := some (4, true) }) rfl (fun K hK => ?_) AllReadyH.nil
    go_simp
    go_at_call 24; go_split_ands; with_reducible refine (Equal.calls g1 gy (joinO P Q) Y _ (IsO.below (by repeat (first | with_reducible assumption | with_reducible exact Below.refl _ _ | with_reducible refine below_drw ?_)) O1.out) (IsO.below (by assumption) OY9.out) HPQN.out NY.out).mono ?_; rintro e V3 ⟨rfl, hb1⟩; rw [HPQ.out]
    try go_wp2_with fail
    refine hK.out _ _ ?_ (fun hHeld => ?_)
    · (try dsimp only); (go_split_ands; exact ⟨below_step (by assumption) hb1, pw_cell_below hb1 (by assumption), pw_cell_below hb1 (by assumption), pw_cell_below hb1 (by assumption), pw_cell_below hb1 (by assumption)⟩)
    clear hK K
    (try simp only [Act.put, List.setIfInBounds_toArray, List.set_cons_zero, List.set_cons_succ])
    refine wpAnyH_take (i := 11) (oi := { dst := some 105, op := Go.Op.pick (Go.Operand.tmp 98) (Go.Operand.tmp 104) (Go.Operand.const (Go.Value.bool false)), type := 4, pos := "law.go:216", after := #[{ on := 4, ground := Go.Ground.data }, { on := 10, ground := Go.Ground.data }], guard := none }) (v := ?_) rfl (by kernel_rfl) (by kernel_rfl) (by kernel_rfl) (fun _ _ _ h => h) (Or.inl ⟨by rfl, ?_⟩) (by assumption) ?_
    rotate_left
    · (intro w hSw; (try dsimp only at hSw); go_simp; first | done | with_reducible rfl)
    (try simp only [Act.put, List.setIfInBounds_toArray, List.set_cons_zero, List.set_cons_succ])
    refine wpAnyH_take (i := 12) (oi := { dst := some 106, op := Go.Op.move (Go.Operand.tmp 105), type := 4, pos := "law.go:216", after := #[{ on := 11, ground := Go.Ground.data }, { on := 10, ground := Go.Ground.chain }], guard := none }) (v := ?_) rfl (by kernel_rfl) (by kernel_rfl) (by kernel_rfl) (fun _ _ _ h => h) (Or.inl ⟨by rfl, ?_⟩) (by assumption) ?_
    rotate_left
    · (intro w hSw; (try dsimp only at hSw); go_simp; first | done | with_reducible rfl)
    (try simp only [Act.put, List.setIfInBounds_toArray, List.set_cons_zero, List.set_cons_succ])
    refine wpAnyH_take (i := 13) (oi := { dst := some 107, op := Go.Op.load 26 (Go.Operand.tmp 16), type := 26, pos := "law.go:216", after := #[{ on := 12, ground := Go.Ground.guard }], guard := some (12, true) }) (v := ?_) rfl (by kernel_rfl) (by kernel_rfl) (by kernel_rfl) (fun _ _ _ h => h) (Or.inl ⟨by rfl, ?_⟩) (by assumption) ?_
    rotate_left
    · (intro w hSw; (try dsimp only at hSw); go_simp; first | done | with_reducible rfl)
    (try simp only [Act.put, List.setIfInBounds_toArray, List.set_cons_zero, List.set_cons_succ])
    refine wpAnyH_take (i := 14) (oi := { dst := some 108, op := Go.Op.move (Go.Operand.tmp 22), type := 3, pos := "law.go:216", after := #[{ on := 12, ground := Go.Ground.guard }], guard := some (12, true) }) (v := ?_) rfl (by kernel_rfl) (by kernel_rfl) (by kernel_rfl) (fun _ _ _ h => h) (Or.inl ⟨by rfl, ?_⟩) (by assumption) ?_
    rotate_left
    · (intro w hSw; (try dsimp only at hSw); go_simp; first | done | with_reducible rfl)
    (try simp only [Act.put, List.setIfInBounds_toArray, List.set_cons_zero, List.set_cons_succ])
    refine wpAnyH_take (i := 15) (oi := { dst := some 109, op := Go.Op.move (Go.Operand.tmp 19), type := 3, pos := "law.go:216", after := #[{ on := 12, ground := Go.Ground.guard }], guard := some (12, true) }) (v := ?_) rfl (by kernel_rfl) (by kernel_rfl) (by kernel_rfl) (fun _ _ _ h => h) (Or.inl ⟨by rfl, ?_⟩) (by assumption) ?_
    rotate_left
    · (intro w hSw; (try dsimp only at hSw); go_simp; first | done | with_reducible rfl)
    (try simp only [Act.put, List.setIfInBounds_toArray, List.set_cons_zero, List.set_cons_succ])
    refine wpAnyH_take (i := 16) (oi := { dst := some 110, op := Go.Op.call { callee := Go.Callee.builtin Go.Builtin.min, args := #[Go.Operand.tmp 108, Go.Operand.tmp 109], argTypes := #[3, 3] }, type := 3, pos := "law.go:216", after := #[{ on := 14, ground := Go.Ground.data }, { on := 15, ground := Go.Ground.data }, { on := 12, ground := Go.Ground.guard }], guard := some (12, true) }) (v := ?_) rfl (by kernel_rfl) (by kernel_rfl) (by kernel_rfl) (fun _ _ _ h => h) (Or.inl ⟨by rfl, ?_⟩) (by assumption) ?_
    rotate_left
    · (intro w hSw; (try dsimp only at hSw); go_simp; first | done | with_reducible rfl)
    (try simp only [Act.put, List.setIfInBounds_toArray, List.set_cons_zero, List.set_cons_succ])
    refine wpAnyH_take (i := 17) (oi := { dst := some 111, op := Go.Op.move (Go.Operand.tmp 19), type := 3, pos := "law.go:216", after := #[{ on := 12, ground := Go.Ground.guard }], guard := some (12, true) }) (v := ?_) rfl (by kernel_rfl) (by kernel_rfl) (by kernel_rfl) (fun _ _ _ h => h) (Or.inl ⟨by rfl, ?_⟩) (by assumption) ?_
    rotate_left
    · (intro w hSw; (try dsimp only at hSw); go_simp; first | done | with_reducible rfl)
    (try simp only [Act.put, List.setIfInBounds_toArray, List.set_cons_zero, List.set_cons_succ])
    refine wpAnyH_take (i := 19) (oi := { dst := some 113, op := Go.Op.move (Go.Operand.tmp 23), type := 3, pos := "law.go:216", after := #[{ on := 12, ground := Go.Ground.guard }], guard := some (12, true) }) (v := ?_) rfl (by kernel_rfl) (by kernel_rfl) (by kernel_rfl) (fun _ _ _ h => h) (Or.inl ⟨by rfl, ?_⟩) (by assumption) ?_
    rotate_left
    · (intro w hSw; (try dsimp only at hSw); go_simp; first | done | with_reducible rfl)
    (try simp only [Act.put, List.setIfInBounds_toArray, List.set_cons_zero, List.set_cons_succ])
    refine wpAnyH_take (i := 21) (oi := { dst := some 115, op := Go.Op.load 26 (Go.Operand.tmp 16), type := 26, pos := "law.go:216", after := #[{ on := 12, ground := Go.Ground.guard }], guard := some (12, true) }) (v := ?_) rfl (by kernel_rfl) (by kernel_rfl) (by kernel_rfl) (fun _ _ _ h => h) (Or.inl ⟨by rfl, ?_⟩) (by assumption) ?_
    rotate_left
    · (intro w hSw; (try dsimp only at hSw); go_simp; first | done | with_reducible rfl)
    (try simp only [Act.put, List.setIfInBounds_toArray, List.set_cons_zero, List.set_cons_succ])
    refine wpAnyH_take (i := 22) (oi := { dst := some 116, op := Go.Op.move (Go.Operand.tmp 22), type := 3, pos := "law.go:216", after := #[{ on := 12, ground := Go.Ground.guard }], guard := some (12, true) }) (v := ?_) rfl (by kernel_rfl) (by kernel_rfl) (by kernel_rfl) (fun _ _ _ h => h) (Or.inl ⟨by rfl, ?_⟩) (by assumption) ?_
    rotate_left
    · (intro w hSw; (try dsimp only at hSw); go_simp; first | done | with_reducible rfl)
    (try simp only [Act.put, List.setIfInBounds_toArray, List.set_cons_zero, List.set_cons_succ])
    refine wpAnyH_take (i := 23) (oi := { dst := some 117, op := Go.Op.move (Go.Operand.tmp 19), type := 3, pos := "law.go:216", after := #[{ on := 12, ground := Go.Ground.guard }], guard := some (12, true) }) (v := ?_) rfl (by kernel_rfl) (by kernel_rfl) (by kernel_rfl) (fun _ _ _ h => h) (Or.inl ⟨by rfl, ?_⟩) (by assumption) ?_
    rotate_left
    · (intro w hSw; (try dsimp only at hSw); go_simp; first | done | with_reducible rfl)
    (try simp only [Act.put, List.setIfInBounds_toArray, List.set_cons_zero, List.set_cons_succ])
    refine wpAnyH_take (i := 24) (oi := { dst := some 118, op := Go.Op.call { callee := Go.Callee.builtin Go.Builtin.min, args := #[Go.Operand.tmp 116, Go.Operand.tmp 117], argTypes := #[3, 3] }, type := 3, pos := "law.go:216", after := #[{ on := 22, ground := Go.Ground.data }, { on := 23, ground := Go.Ground.data }, { on := 12, ground := Go.Ground.guard }], guard := some (12, true) }) (v := ?_) rfl (by kernel_rfl) (by kernel_rfl) (by kernel_rfl) (fun _ _ _ h => h) (Or.inl ⟨by rfl, ?_⟩) (by assumption) ?_
    rotate_left
    · (intro w hSw; (try dsimp only at hSw); go_simp; first | done | with_reducible rfl)
    (try simp only [Act.put, List.setIfInBounds_toArray, List.set_cons_zero, List.set_cons_succ])
    refine wpAnyH_take (i := 25) (oi := { dst := some 119, op := Go.Op.move (Go.Operand.tmp 19), type := 3, pos := "law.go:216", after := #[{ on := 12, ground := Go.Ground.guard }], guard := some (12, true) }) (v := ?_) rfl (by kernel_rfl) (by kernel_rfl) (by kernel_rfl) (fun _ _ _ h => h) (Or.inl ⟨by rfl, ?_⟩) (by assumption) ?_
    rotate_left
    · (intro w hSw; (try dsimp only at hSw); go_simp; first | done | with_reducible rfl)
    (try simp only [Act.put, List.setIfInBounds_toArray, List.set_cons_zero, List.set_cons_succ])
    refine wpAnyH_take (i := 26) (oi := { dst := some 120, op := Go.Op.move (Go.Operand.tmp 22), type := 3, pos := "law.go:216", after := #[{ on := 12, ground := Go.Ground.guard }], guard := some (12, true) }) (v := ?_) rfl (by kernel_rfl) (by kernel_rfl) (by kernel_rfl) (fun _ _ _ h => h) (Or.inl ⟨by rfl, ?_⟩) (by assumption) ?_
    rotate_left
    · (intro w hSw; (try dsimp only at hSw); go_simp; first | done | with_reducible rfl)
    (try simp only [Act.put, List.setIfInBounds_toArray, List.set_cons_zero, List.set_cons_succ])
    refine wpAnyH_take (i := 27) (oi := { dst := some 121, op := Go.Op.move (Go.Operand.tmp 19), type := 3, pos := "law.go:216", after := #[{ on := 12, ground := Go.Ground.guard }], guard := some (12, true) }) (v := ?_) rfl (by kernel_rfl) (by kernel_rfl) (by kernel_rfl) (fun _ _ _ h => h) (Or.inl ⟨by rfl, ?_⟩) (by assumption) ?_
    rotate_left
    · (intro w hSw; (try dsimp only at hSw); go_simp; first | done | with_reducible rfl)
    (try simp only [Act.put, List.setIfInBounds_toArray, List.set_cons_zero, List.set_cons_succ])
    refine wpAnyH_take (i := 28) (oi := { dst := some 122, op := Go.Op.call { callee := Go.Callee.builtin Go.Builtin.min, args := #[Go.Operand.tmp 120, Go.Operand.tmp 121], argTypes := #[3, 3] }, type := 3, pos := "law.go:216", after := #[{ on := 26, ground := Go.Ground.data }, { on := 27, ground := Go.Ground.data }, { on := 12, ground := Go.Ground.guard }], guard := some (12, true) }) (v := ?_) rfl (by kernel_rfl) (by kernel_rfl) (by kernel_rfl) (fun _ _ _ h => h) (Or.inl ⟨by rfl, ?_⟩) (by assumption) ?_
    rotate_left
    · (intro w hSw; (try dsimp only at hSw); go_simp; first | done | with_reducible rfl)
    (try simp only [Act.put, List.setIfInBounds_toArray, List.set_cons_zero, List.set_cons_succ])
    refine wpAnyH_take (i := 29) (oi := { dst := some 123, op := Go.Op.move (Go.Operand.tmp 23), type := 3, pos := "law.go:216", after := #[{ on := 12, ground := Go.Ground.guard }], guard := some (12, true) }) (v := ?_) rfl (by kernel_rfl) (by kernel_rfl) (by kernel_rfl) (fun _ _ _ h => h) (Or.inl ⟨by rfl, ?_⟩) (by assumption) ?_
    rotate_left
    · (intro w hSw; (try dsimp only at hSw); go_simp; first | done | with_reducible rfl)
    (try simp only [Act.put, List.setIfInBounds_toArray, List.set_cons_zero, List.set_cons_succ])
    refine wpAnyH_take (i := 30) (oi := { dst := some 124, op := Go.Op.binOp Go.BinOp.add 3 (Go.Operand.tmp 122) (Go.Operand.tmp 123) 3, type := 3, pos := "law.go:216", after := #[{ on := 28, ground := Go.Ground.data }, { on := 29, ground := Go.Ground.data }, { on := 12, ground := Go.Ground.guard }], guard := some (12, true) }) (v := ?_) rfl (by kernel_rfl) (by kernel_rfl) (by kernel_rfl) (fun _ _ _ h => h) (Or.inl ⟨by rfl, ?_⟩) (by assumption) ?_
    rotate_left
    · (intro w hSw; (try dsimp only at hSw); go_simp; first | done | with_reducible rfl)
    (try simp only [Act.put, List.setIfInBounds_toArray, List.set_cons_zero, List.set_cons_succ])
    refine wpAnyH_take (i := 31) (oi := { dst := some 125, op := Go.Op.call { callee := Go.Callee.builtin Go.Builtin.min, args := #[Go.Operand.tmp 119, Go.Operand.tmp 124], argTypes := #[3, 3] }, type := 3, pos := "law.go:216", after := #[{ on := 25, ground := Go.Ground.data }, { on := 30, ground := Go.Ground.data }, { on := 12, ground := Go.Ground.guard }], guard := some (12, true) }) (v := ?_) rfl (by kernel_rfl) (by kernel_rfl) (by kernel_rfl) (fun _ _ _ h => h) (Or.inl ⟨by rfl, ?_⟩) (by assumption) ?_
    rotate_left
    · (intro w hSw; (try dsimp only at hSw); go_simp; first | done | with_reducible rfl)
    (try simp only [Act.put, List.setIfInBounds_toArray, List.set_cons_zero, List.set_cons_succ])
    refine wpAnyH_take (i := 33) (oi := { dst := some 127, op := Go.Op.move (Go.Operand.tmp 18), type := 44, pos := "law.go:216", after := #[{ on := 12, ground := Go.Ground.guard }], guard := some (12, true) }) (v := ?_) rfl (by kernel_rfl) (by kernel_rfl) (by kernel_rfl) (fun _ _ _ h => h) (Or.inl ⟨by rfl, ?_⟩) (by assumption) ?_
    rotate_left
    · (intro w hSw; (try dsimp only at hSw); go_simp; first | done | with_reducible rfl)
    (try simp only [Act.put, List.setIfInBounds_toArray, List.set_cons_zero, List.set_cons_succ])
    refine wpAnyH_ready (rs := [18]) (by kernel_rfl) (by simp) ?_
    refine AllReadyH.cons (o := { dst := some 112, op := Go.Op.call { callee := Go.Callee.value (Go.Operand.func 18), args := #[Go.Operand.tmp 107, Go.Operand.tmp 110, Go.Operand.tmp 111], argTypes := #[26, 3, 3] }, type := 26, pos := "law.go:216", after := #[{ on := 13, ground := Go.Ground.data }, { on := 16, ground := Go.Ground.data }, { on := 17, ground := Go.Ground.data }, { on := 12, ground := Go.Ground.chain }, { on := 12, ground := Go.Ground.guard }], guard := some (12, true) }) rfl (fun K hK => ?_) AllReadyH.nil
    go_simp
    go_at_call 18; go_split_ands; with_reducible refine (Part_int.calls gx mi a X _ (IsO.below (by assumption) OX9.out) NX.out).mono ?_; rintro e V4 ⟨g2, rfl, hO2, hb1⟩; rw [D1.out] at hO2; have O2 := Aside0.mk hO2; clear hO2
    try go_wp2_with fail
    refine hK.out _ _ ?_ (fun hHeld => ?_)
    · (try dsimp only); (go_split_ands; exact ⟨below_step (by assumption) hb1, pw_cell_below hb1 (by assumption), pw_cell_below hb1 (by assumption), pw_cell_below hb1 (by assumption), pw_cell_below hb1 (by assumption)⟩)
    clear hK K
    (try simp only [Act.put, List.setIfInBounds_toArray, List.set_cons_zero, List.set_cons_succ])
    refine wpAnyH_ready (rs := [20]) (by kernel_rfl) (by simp) ?_
    refine AllReadyH.cons (o := { dst := some 114, op := Go.Op.call { callee := Go.Callee.value (Go.Operand.func 18), args := #[Go.Operand.tmp 112, Go.Operand.const (Go.Value.int Go.IntKind.i64 0), Go.Operand.tmp 113], argTypes := #[26, 3, 3] }, type := 26, pos := "law.go:216", after := #[{ on := 18, ground := Go.Ground.data }, { on := 19, ground := Go.Ground.data }, { on := 18, ground := Go.Ground.chain }, { on := 12, ground := Go.Ground.guard }], guard := some (12, true) }) rfl (fun K hK => ?_) AllReadyH.nil
    go_simp
    go_at_call 18; go_split_ands; with_reducible refine (Part_int.calls g2 0 j C1 _ (IsO.below (by repeat (first | with_reducible assumption | with_reducible exact Below.refl _ _ | with_reducible refine below_drw ?_)) O2.out) LL1.out).mono ?_; rintro e V5 ⟨g3, rfl, hO3, hb1⟩; rw [D2.out] at hO3; have O3 := Aside0.mk hO3; clear hO3
    try go_wp2_with fail
    refine hK.out _ _ ?_ (fun hHeld => ?_)
    · (try dsimp only); (go_split_ands; exact ⟨below_step (by assumption) hb1, pw_cell_below hb1 (by assumption), pw_cell_below hb1 (by assumption), pw_cell_below hb1 (by assumption), pw_cell_below hb1 (by assumption)⟩)
    clear hK K
    (try simp only [Act.put, List.setIfInBounds_toArray, List.set_cons_zero, List.set_cons_succ])
    refine wpAnyH_ready (rs := [32]) (by kernel_rfl) (by simp) ?_
    refine AllReadyH.cons (o := { dst := some 126, op := Go.Op.call { callee := Go.Callee.value (Go.Operand.func 18), args := #[Go.Operand.tmp 115, Go.Operand.tmp 118, Go.Operand.tmp 125], argTypes := #[26, 3, 3] }, type := 26, pos := "law.go:216", after := #[{ on := 21, ground := Go.Ground.data }, { on := 24, ground := Go.Ground.data }, { on := 31, ground := Go.Ground.data }, { on := 20, ground := Go.Ground.chain }, { on := 12, ground := Go.Ground.guard }], guard := some (12, true) }) rfl (fun K hK => ?_) AllReadyH.nil
    go_simp
    go_at_call 18; go_split_ands; with_reducible refine (Part_int.calls gx mi e2 X _ (IsO.below (by assumption) OX9.out) NX.out).mono ?_; rintro e V6 ⟨g4, rfl, hO4, hb1⟩; rw [D3.out] at hO4; have O4 := Aside0.mk hO4; have O3' := Aside0.mk (IsO.below hb1 (IsO.below (by repeat (first | with_reducible assumption | with_reducible exact Below.refl _ _ | with_reducible refine below_drw ?_)) O3.out)); clear hO4
    try go_wp2_with fail
    refine hK.out _ _ ?_ (fun hHeld => ?_)
    · (try dsimp only); (go_split_ands; exact ⟨below_step (by assumption) hb1, pw_cell_below hb1 (by assumption), pw_cell_below hb1 (by assumption), pw_cell_below hb1 (by assumption), pw_cell_below hb1 (by assumption)⟩)
    clear hK K
    (try simp only [Act.put, List.setIfInBounds_toArray, List.set_cons_zero, List.set_cons_succ])
    refine wpAnyH_ready (rs := [34]) (by kernel_rfl) (by simp) ?_
    refine AllReadyH.cons (o := { dst := some 128, op := Go.Op.call { callee := Go.Callee.value (Go.Operand.func 24), args := #[Go.Operand.tmp 114, Go.Operand.tmp 126, Go.Operand.tmp 127], argTypes := #[26, 26, 44] }, type := 4, pos := "law.go:216", after := #[{ on := 20, ground := Go.Ground.data }, { on := 32, ground := Go.Ground.data }, { on := 33, ground := Go.Ground.data }, { on := 32, ground := Go.Ground.chain }, { on := 12, ground := Go.Ground.guard }], guard := some (12, true) }) rfl (fun K hK => ?_) AllReadyH.nil
    go_simp
    go_at_call 24; go_split_ands; with_reducible refine (Equal.calls g3 g4 C2 C3 _ (IsO.below (by repeat (first | with_reducible assumption | with_reducible exact Below.refl _ _ | with_reducible refine below_drw ?_)) O3'.out) (IsO.below (by repeat (first | with_reducible assumption | with_reducible exact Below.refl _ _ | with_reducible refine below_drw ?_)) O4.out) LL2.out LL3.out).mono ?_; rintro e V7 ⟨rfl, hb1⟩; rw [HPP.out]
    try go_wp2_with fail
    refine hK.out _ _ ?_ (fun hHeld => ?_)
    · (try dsimp only); (go_split_ands; exact ⟨below_step (by assumption) hb1, pw_cell_below hb1 (by assumption), pw_cell_below hb1 (by assumption), pw_cell_below hb1 (by assumption), pw_cell_below hb1 (by assumption)⟩)
    clear hK K
    (try simp only [Act.put, List.setIfInBounds_toArray, List.set_cons_zero, List.set_cons_succ])
    refine wpAnyH_take (i := 35) (oi := { dst := some 129, op := Go.Op.pick (Go.Operand.tmp 106) (Go.Operand.tmp 128) (Go.Operand.const (Go.Value.bool false)), type := 4, pos := "law.go:216", after := #[{ on := 12, ground := Go.Ground.data }, { on := 34, ground := Go.Ground.data }], guard := none }) (v := ?_) rfl (by kernel_rfl) (by kernel_rfl) (by kernel_rfl) (fun _ _ _ h => h) (Or.inl ⟨by rfl, ?_⟩) (by assumption) ?_
    rotate_left
    · (intro w hSw; (try dsimp only at hSw); go_simp; first | done | with_reducible rfl)
    (try simp only [Act.put, List.setIfInBounds_toArray, List.set_cons_zero, List.set_cons_succ])
    refine wpAnyH_take (i := 36) (oi := { dst := some 130, op := Go.Op.move (Go.Operand.tmp 129), type := 4, pos := "law.go:216", after := #[{ on := 35, ground := Go.Ground.data }, { on := 34, ground := Go.Ground.chain }], guard := none }) (v := ?_) rfl (by kernel_rfl) (by kernel_rfl) (by kernel_rfl) (fun _ _ _ h => h) (Or.inl ⟨by rfl, ?_⟩) (by assumption) ?_
    rotate_left
    · (intro w hSw; (try dsimp only at hSw); go_simp; first | done | with_reducible rfl)
    (try simp only [Act.put, List.setIfInBounds_toArray, List.set_cons_zero, List.set_cons_succ])
    refine wpAnyH_ready (rs := [37]) (by kernel_rfl) (by simp) ?_
    refine AllReadyH.cons (o := { dst := some 131, op := Go.Op.call { callee := Go.Callee.value (Go.Operand.func 10), args := #[], argTypes := #[] }, type := 4, pos := "law.go:216", after := #[{ on := 36, ground := Go.Ground.chain }, { on := 36, ground := Go.Ground.guard }], guard := some (36, true) }) rfl (fun K hK => ?_) AllReadyH.nil
    go_simp
    go_at_call 10; go_split_ands; with_reducible refine (awake.calls _).mono ?_; rintro e V8 ⟨rfl, hb1⟩
    try go_wp2_with fail
    refine hK.out _ _ ?_ (fun hHeld => ?_)
    · (try dsimp only); (go_split_ands; exact ⟨below_step (by assumption) hb1, pw_cell_below hb1 (by assumption), pw_cell_below hb1 (by assumption), pw_cell_below hb1 (by assumption), pw_cell_below hb1 (by assumption)⟩)
    clear hK K
    (try simp only [Act.put, List.setIfInBounds_toArray, List.set_cons_zero, List.set_cons_succ])
    refine wpAnyH_take (i := 38) (oi := { dst := some 132, op := Go.Op.pick (Go.Operand.tmp 130) (Go.Operand.tmp 131) (Go.Operand.const (Go.Value.bool false)), type := 4, pos := "law.go:216", after := #[{ on := 36, ground := Go.Ground.data }, { on := 37, ground := Go.Ground.data }], guard := none }) (v := ?_) rfl (by kernel_rfl) (by kernel_rfl) (by kernel_rfl) (fun _ _ _ h => h) (Or.inl ⟨by rfl, ?_⟩) (by assumption) ?_
    rotate_left
    · (intro w hSw; (try dsimp only at hSw); go_simp; first | done | with_reducible rfl)
    (try simp only [Act.put, List.setIfInBounds_toArray, List.set_cons_zero, List.set_cons_succ])
    refine wpAnyH_take (i := 39) (oi := { dst := some 12, op := Go.Op.assign (Go.Operand.tmp 132), type := 4, pos := "law.go:216", after := #[{ on := 38, ground := Go.Ground.data }, { on := 37, ground := Go.Ground.chain }, { on := 0, ground := Go.Ground.phase }, { on := 1, ground := Go.Ground.phase }, { on := 2, ground := Go.Ground.phase }, { on := 3, ground := Go.Ground.phase }, { on := 4, ground := Go.Ground.phase }, { on := 5, ground := Go.Ground.phase }, { on := 6, ground := Go.Ground.phase }, { on := 7, ground := Go.Ground.phase }, { on := 8, ground := Go.Ground.phase }, { on := 9, ground := Go.Ground.phase }, { on := 10, ground := Go.Ground.phase }, { on := 11, ground := Go.Ground.phase }, { on := 12, ground := Go.Ground.phase }, { on := 13, ground := Go.Ground.phase }, { on := 14, ground := Go.Ground.phase }, { on := 15, ground := Go.Ground.phase }, { on := 16, ground := Go.Ground.phase }, { on := 17, ground := Go.Ground.phase }, { on := 18, ground := Go.Ground.phase }, { on := 19, ground := Go.Ground.phase }, { on := 20, ground := Go.Ground.phase }, { on := 21, ground := Go.Ground.phase }, { on := 22, ground := Go.Ground.phase }, { on := 23, ground := Go.Ground.phase }, { on := 24, ground := Go.Ground.phase }, { on := 25, ground := Go.Ground.phase }, { on := 26, ground := Go.Ground.phase }, { on := 27, ground := Go.Ground.phase }, { on := 28, ground := Go.Ground.phase }, { on := 29, ground := Go.Ground.phase }, { on := 30, ground := Go.Ground.phase }, { on := 31, ground := Go.Ground.phase }, { on := 32, ground := Go.Ground.phase }, { on := 33, ground := Go.Ground.phase }, { on := 34, ground := Go.Ground.phase }, { on := 35, ground := Go.Ground.phase }, { on := 36, ground := Go.Ground.phase }, { on := 37, ground := Go.Ground.phase }, { on := 38, ground := Go.Ground.phase }], guard := none }) (v := ?_) rfl (by kernel_rfl) (by kernel_rfl) (by kernel_rfl) (fun _ _ _ h => h) (Or.inl ⟨by rfl, ?_⟩) (by assumption) ?_
    rotate_left
    · (intro w hSw; (try dsimp only at hSw); go_simp; first | done | with_reducible rfl)
    (try simp only [Act.put, List.setIfInBounds_toArray, List.set_cons_zero, List.set_cons_succ])
    refine wpAnyH_done (by kernel_rfl) ?_ _
    have hbF : Below W9.heap.size W9 V8 := by go_split_ands; assumption
    have HBF := Aside0.mk (below_step R9.out hbF)
    go_wp2
    go_ret
    exact ⟨rfl, HBF.out⟩

end Go.Proofs.Ytlopceimlipemaa.Rope
