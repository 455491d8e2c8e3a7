/- term.At. -/
import Derived.Test.YtdbjjaodkapikaaKTEParts2
import Derived.Test.YtdbjjaodkapikaaKTEPlain
namespace Go.Proofs.Ytdbjjaodkapikaa.TE
open Go.RowKit Go.Shelf Go.Proofs.YtdbjjaodkapikaaW.PrintWords Go.Proofs.YtdbjjaodkapikaaW.PrintLast Go.Proofs.YtdbjjaodkapikaaW.PrintMore Go.Proofs.Ytdbjjaodkapikaa.Evs
set_option linter.unusedVariables false
set_option linter.unusedSimpArgs false
def goP : List Tm → List Int → Tm → Option Tm
  | _, [], x => some x
  | l, i :: r, _ => if h : 0 ≤ i ∧ i.toNat < l.length then goP (l[i.toNat]'h.2).f2 r (l[i.toNat]'h.2) else none
def atR (l : List Tm) (p : List Int) : Tm × Bool :=
  match goP l p z42 with
  | none => (z42, false)
  | some x => (x, decide (0 < p.length))
theorem goP_step {l : List Tm} {p : List Int} {q : Nat} {x : Tm} (hq : q < p.length) : goP l (p.drop q) x = if h : 0 ≤ p[q] ∧ p[q].toNat < l.length then goP (l[p[q].toNat]'h.2).f2 (p.drop (q + 1)) (l[p[q].toNat]'h.2) else none := by
  rw [List.drop_eq_getElem_cons hq, goP]
theorem at_results {tmps : Array Value} {W : World} {b : Nat} {k : Int} {t : ByteArray} {u : Value} {v : Bool} (h2 : tmps.getD 4 undef = .pointer (some ⟨b, 0, none⟩)) (h3 : tmps.getD 5 undef = .bool v) (x0 : W.cell? ⟨b, 0, none⟩ = some (.int .i64 k)) (x1 : W.cell? ⟨b, 1, none⟩ = some (.string t)) (x2 : W.cell? ⟨b, 2, none⟩ = some u) :
    (results Try.f31 tmps).run Try.prog W = .ok (.tuple #[.agg #[.int .i64 k, .string t, u], .bool v]) W := by
  have h2' : tmps[4]?.getD undef = .pointer (some ⟨b, 0, none⟩) := by simpa using h2
  have h3' : tmps[5]?.getD undef = .bool v := by simpa using h3
  have hu := Try.underlying42; simp [results, Try.results31, h2', h3', go_sem, x0, x1, x2]
theorem below3' {B b : Nat} {w W : World} {x y z : Value} (h : Below B w W) (hb : B ≤ b) : Below B w (((W.setCell ⟨b, 0, none⟩ x).setCell ⟨b, 1, none⟩ y).setCell ⟨b, 2, none⟩ z) :=
  ((h.setCell (p := ⟨b, 0, none⟩) hb _).setCell (p := ⟨b, 1, none⟩) hb _).setCell (p := ⟨b, 2, none⟩) hb _
theorem oth3 {W : World} {b g : Nat} {x y z : Value} (h : g ≠ b) : (((W.setCell ⟨b, 0, none⟩ x).setCell ⟨b, 1, none⟩ y).setCell ⟨b, 2, none⟩ z).heap[g]? = W.heap[g]? := by
  rw [Below.heap_setCell _ ⟨b, 2, none⟩ _ _ h, Below.heap_setCell _ ⟨b, 1, none⟩ _ _ h, Below.heap_setCell _ ⟨b, 0, none⟩ _ _ h]
set_option maxRecDepth 100000 in
set_option maxHeartbeats 4000000 in
theorem At.calls (A : Option Addr) (c : Nat) (l : List Tm) (P : Option Addr) (d : Nat) (p : List Int) (w : World) (hC : Kd.C k42 w A l.length l) (hc : l.length ≤ c) (hP : Kd.C (Kd.int .i64) w P p.length p) (hd : p.length ≤ d) (hpl : p.length ≤ 1048576) :
    Calls Try.prog 31 #[.slice A l.length c, .slice P p.length d] w fun e w' => ∃ A' c', e = .returned (.tuple #[.agg #[.int .i64 (atR l p).1.f0, .string (atR l p).1.f1, .slice A' (atR l p).1.f2.length c'], .bool (atR l p).2]) ∧ (atR l p).1.f2.length ≤ c' ∧ Kd.C k42 w' A' (atR l p).1.f2.length (atR l p).1.f2 ∧ Below w.heap.size w w' := by
  have hb0 : Below w.heap.size w (w.alloc (.cells #[.int .i64 0, .string ⟨#[]⟩, .slice none 0 0] 42)) := (Below.refl _ _).alloc (Nat.le_refl _) _; have hn0 := World.alloc_heap_new w (.cells #[.int .i64 0, .string ⟨#[]⟩, .slice none 0 0] 42)
  have hs0 : (w.alloc (.cells #[.int .i64 0, .string ⟨#[]⟩, .slice none 0 0] 42)).heap.size = w.heap.size + 1 := by simp
  obtain ⟨W0, hW0⟩ : ∃ W0, w.alloc (.cells #[.int .i64 0, .string ⟨#[]⟩, .slice none 0 0] 42) = W0 := ⟨_, rfl⟩; rw [hW0] at hb0 hn0 hs0; have hb1 : Below W0.heap.size W0 (W0.alloc (.cells #[.int .i64 0, .string ⟨#[]⟩, .slice none 0 0] 42)) := (Below.refl _ _).alloc (Nat.le_refl _) _; have hn1 := World.alloc_heap_new W0 (.cells #[.int .i64 0, .string ⟨#[]⟩, .slice none 0 0] 42); obtain ⟨W1, hW1⟩ : ∃ W1, W0.alloc (.cells #[.int .i64 0, .string ⟨#[]⟩, .slice none 0 0] 42) = W1 := ⟨_, rfl⟩; rw [hW1] at hb1 hn1; have hz1 := (hb1.block _ (Array.getElem?_eq_some_iff.1 hn0).1).trans hn0; rw [hs0] at hn1; have HB1 := Aside0.mk (q14 hb0 hb1); have HN1 := Aside0.mk hn1; have HZ1 := Aside0.mk hz1; have HW : Aside0 ((w.alloc (.cells #[.int .i64 0, .string ⟨#[]⟩, .slice none 0 0] 42)).alloc (.cells #[.int .i64 0, .string ⟨#[]⟩, .slice none 0 0] 42) = W1) := ⟨by rw [hW0, hW1]⟩; have HC := Aside0.mk hC; have HCC := Aside0.mk hc; have HP := Aside0.mk hP; have HPL := Aside0.mk hpl; clear hb0 hn0 hs0 hb1 hn1 hz1 hW1 hW0 hC hc hP hd hpl
  go_enter Try.func31, Try.ntmps31
  go_wp2_with fail
  rw [HW.out]
  go_loopw [0, 11] (fun s i wr => ∃ (q : Nat) (cur : List Tm) (A1 : Option Addr) (c1 : Nat) (x : Tm) (A2 : Option Addr) (c2 : Nat), i = .int .i64 q ∧ s = .slice A1 cur.length c1 ∧ q ≤ p.length ∧ Aside0 (goP l p z42 = goP cur (p.drop q) x) ∧ Aside0 (Kd.C k42 w A1 cur.length cur) ∧ Aside0 (cur.length ≤ c1) ∧ Aside0 (Below w.heap.size w wr) ∧ Aside0 (wr.heap[w.heap.size]? = some (.cells #[.int .i64 0, .string ⟨#[]⟩, .slice none 0 0] 42 (0, 0))) ∧ Aside0 (wr.heap[w.heap.size + 1]? = some (.cells #[.int .i64 x.f0, .string x.f1, .slice A2 x.f2.length c2] 42 (0, 0))) ∧ Aside0 (x.f2.length ≤ c2) ∧ Aside0 (Kd.C k42 w A2 x.f2.length x.f2)) (fun s i wr => p.length - (intOf i).toNat)
  case atStart => exact ⟨0, l, A, c, z42, none, 0, rfl, rfl, Nat.zero_le _, ⟨by rw [List.drop_zero]⟩, HC, HCC, HB1, HZ1, HN1, ⟨Nat.le_refl _⟩, ⟨Kd.C_nil k42 w⟩⟩
  case round =>
    obtain ⟨q, cur, A1, c1, x, A2, c2, rfl, rfl, hq, HG, HC1, HC1l, HB, HZ, HX, HX2, HXC⟩ := hrel; have hq0 : (0 : Int) ≤ (q : Int) := Int.natCast_nonneg _; have x0 : wr.cell? ⟨w.heap.size, 0, none⟩ = some (.int .i64 0) := (q9 HZ.out 0).trans rfl; have x1 : wr.cell? ⟨w.heap.size, 1, none⟩ = some (.string ⟨#[]⟩) := (q9 HZ.out 1).trans rfl; have x2 : wr.cell? ⟨w.heap.size, 2, none⟩ = some (.slice none 0 0) := (q9 HZ.out 2).trans rfl; have f0 : wr.frozen? ⟨w.heap.size, 0, none⟩ = false := q15 HZ.out 0; have f1 : wr.frozen? ⟨w.heap.size, 1, none⟩ = false := q15 HZ.out 1; have f2 : wr.frozen? ⟨w.heap.size, 2, none⟩ = false := q15 HZ.out 2; have y0 : wr.cell? ⟨w.heap.size + 1, 0, none⟩ = some (.int .i64 x.f0) := (q9 HX.out 0).trans rfl; have y1 : wr.cell? ⟨w.heap.size + 1, 1, none⟩ = some (.string x.f1) := (q9 HX.out 1).trans rfl; have y2 : wr.cell? ⟨w.heap.size + 1, 2, none⟩ = some (.slice A2 x.f2.length c2) := (q9 HX.out 2).trans rfl; have g0 : wr.frozen? ⟨w.heap.size + 1, 0, none⟩ = false := q15 HX.out 0; have g1 : wr.frozen? ⟨w.heap.size + 1, 1, none⟩ = false := q15 HX.out 1; have g2 : wr.frozen? ⟨w.heap.size + 1, 2, none⟩ = false := q15 HX.out 2
    by_cases hlt : q < p.length
    · obtain ⟨pad, rfl, hpc⟩ := Kd.at_int HP.out (q : Int) (by omega) (by omega); rw [Int.toNat_natCast] at hpc
      have hrd : rd p (q : Int) = p[q] := by simp [rd, List.getD_eq_getElem?_getD, List.getElem?_eq_getElem hlt]
      rw [hrd] at hpc; replace hpc := (HB.out.cell (World.block_lt_of_cell? w _ hpc)).trans hpc; have HGS := Aside0.mk (HG.out.trans (goP_step (l := cur) (x := x) hlt)); obtain ⟨i, hi⟩ : ∃ i, i = p[q] := ⟨_, rfl⟩; rw [← hi] at hpc HGS
      have hlb : decide ((q : Int) < (p.length : Int)) = true := by simp; omega
      have hqi : (q : Int) < (p.length : Int) := by omega
      have hw : IntKind.i64.wrap ((q : Int) + 1) = (q : Int) + 1 := by have := HPL.out; rw [i64_w]; rw [wrap64_id (by omega) (by omega)]
      clear hi hrd
      by_cases hin : 0 ≤ i ∧ i.toNat < cur.length
      · obtain ⟨hi0, hi1⟩ := hin; obtain ⟨ad, A3, c3, rfl, hx0, hx1, hx2, hl3, hr3⟩ := at_T42 HC1.out i hi0 (by omega); have hx : cur[i.toNat]? = some (cur[i.toNat]'hi1) := List.getElem?_eq_getElem hi1; obtain ⟨z, hz⟩ : ∃ z, z = cur[i.toNat]'hi1 := ⟨_, rfl⟩; rw [dif_pos ⟨hi0, hi1⟩, ← hz] at HGS; rw [← hz] at hx
        have hrd : rd_T42 cur i = z := by simp [rd_T42, List.getD_eq_getElem?_getD, hx]
        rw [hrd] at hx0 hx1 hx2 hl3 hr3; replace hx0 := (HB.out.cell (World.block_lt_of_cell? w _ hx0)).trans hx0; replace hx1 := (HB.out.cell (World.block_lt_of_cell? w _ hx1)).trans hx1; replace hx2 := (HB.out.cell (World.block_lt_of_cell? w _ hx2)).trans hx2; have hib : decide ((i : Int) < 0) = false := decide_eq_false (by omega)
        have hilt : (i : Int) < (cur.length : Int) := by omega
        have hic : decide ((i : Int) ≥ (cur.length : Int)) = false := decide_eq_false (by omega); have HL3 := Aside0.mk hl3; have HR3 := Aside0.mk hr3; clear hz hx hrd hl3 hr3 hi1; have hn' := blk3 (x := .int .i64 z.f0) (y := .string z.f1) (z := .slice A3 z.f2.length c3) HX.out; have ho' := (oth3 (b := w.heap.size + 1) (x := .int .i64 z.f0) (y := .string z.f1) (z := .slice A3 z.f2.length c3) (W := wr) (show w.heap.size ≠ w.heap.size + 1 by omega)).trans HZ.out; have hb' := below3' (b := w.heap.size + 1) (x := .int .i64 z.f0) (y := .string z.f1) (z := .slice A3 z.f2.length c3) HB.out (by omega); obtain ⟨W', hW'⟩ : ∃ W', ((wr.setCell ⟨w.heap.size + 1, 0, none⟩ (.int .i64 z.f0)).setCell ⟨w.heap.size + 1, 1, none⟩ (.string z.f1)).setCell ⟨w.heap.size + 1, 2, none⟩ (.slice A3 z.f2.length c3) = W' := ⟨_, rfl⟩; rw [hW'] at hn' ho' hb'; have HN' := Aside0.mk hn'; have HO' := Aside0.mk ho'; have HB' := Aside0.mk hb'; have HW' := Aside0.mk hW'; have z2 : W'.cell? ⟨w.heap.size + 1, 2, none⟩ = some (.slice A3 z.f2.length c3) := (q9 hn' 2).trans rfl; clear hn' ho' hb' hW'
        go_wp2_with fail
        rw [HW'.out]; exact ⟨⟨q + 1, z.f2, A3, c3, z, A3, c3, by go_num, rfl, by omega, HGS, HR3, HL3, HB', HO', HN', HL3, HR3⟩, by simp [intOf]; omega⟩
      · have HN : Aside0 (atR l p = (z42, false)) := ⟨by unfold atR; rw [HGS.out, dif_neg hin]⟩
        have hout : ((i : Int) < 0) ∨ (i : Int) ≥ (cur.length : Int) := by omega
        by_cases hi0 : i < 0
        · have hib : decide ((i : Int) < 0) = true := decide_eq_true hi0; clear hin hout
          go_wp2_with fail
          refine bodyPost_ret (at_results (b := w.heap.size) rfl rfl ((q9 (blk3 HZ.out) 0).trans rfl) ((q9 (blk3 HZ.out) 1).trans rfl) ((q9 (blk3 HZ.out) 2).trans rfl)) rfl ?_; rw [HN.out]; exact ⟨none, 0, rfl, Nat.le_refl _, Kd.C_nil _ _, below3 HB.out⟩
        · have hib : decide ((i : Int) < 0) = false := decide_eq_false hi0; have hic : decide ((i : Int) ≥ (cur.length : Int)) = true := decide_eq_true (by omega); clear hin hout
          go_wp2_with fail
          refine bodyPost_ret (at_results (b := w.heap.size) rfl rfl ((q9 (blk3 HZ.out) 0).trans rfl) ((q9 (blk3 HZ.out) 1).trans rfl) ((q9 (blk3 HZ.out) 2).trans rfl)) rfl ?_; rw [HN.out]; exact ⟨none, 0, rfl, Nat.le_refl _, Kd.C_nil _ _, below3 HB.out⟩
    · have hqe : q = p.length := by omega
      have HR : Aside0 (atR l p = (x, decide (0 < p.length))) := ⟨by unfold atR; rw [HG.out, hqe, List.drop_length, goP]⟩; have hlb : decide ((q : Int) < (p.length : Int)) = false := decide_eq_false (by omega); have hlb' : decide (q < p.length) = false := decide_eq_false hlt; obtain ⟨pb, hpb⟩ : ∃ pb, pb = decide (0 < p.length) := ⟨_, rfl⟩
      have hgb : decide ((p.length : Int) > 0) = pb := by rw [hpb]; simp
      have HPB := Aside0.mk hpb; clear hqe hlt hpb
      go_wp2_with fail
      refine bodyPost_ret (at_results (b := w.heap.size) rfl rfl ((q9 (blk3 HZ.out) 0).trans rfl) ((q9 (blk3 HZ.out) 1).trans rfl) ((q9 (blk3 HZ.out) 2).trans rfl)) rfl ?_; rw [HR.out]; exact ⟨A2, c2, rfl, HX2.out, Kd.C_below HXC.out (below3 HB.out), below3 HB.out⟩
end Go.Proofs.Ytdbjjaodkapikaa.TE
