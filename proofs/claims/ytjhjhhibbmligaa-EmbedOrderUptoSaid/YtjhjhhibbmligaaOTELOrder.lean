/- The law EmbedOrder, by hand. -/
import Derived.Test.YtjhjhhibbmligaaOTEPl5
import Derived.Test.YtjhjhhibbmligaaOTEPl3
section
namespace Go.Proofs.Ytjhjhhibbmligaa.TE
open Go.RowKit Go.Shelf Go.Proofs.YtjhjhhibbmligaaW.PrintWords Go.Proofs.YtjhjhhibbmligaaW.PrintLast Go.Proofs.YtjhjhhibbmligaaW.PrintMore Go.Proofs.Ytjhjhhibbmligaa.Evs
set_option linter.unusedVariables false
set_option linter.unusedSimpArgs false
set_option maxRecDepth 100000 in
set_option maxHeartbeats 4000000 in
theorem Put.calls (p : List Int) (A : Option Addr) (c : Nat) (l : List Tm) (P : Option Addr) (d : Nat) (B : Option Addr) (b : Nat) (y : List Tm) (w : World) (hC : Kd.C k42 w A l.length l) (hc : l.length ≤ c) (hP : Kd.C (Kd.int .i64) w P p.length p) (hd : p.length ≤ d) (hY : Kd.C k42 w B y.length y) (hy : y.length ≤ b) (hpl : p.length ≤ 1048576) (hb : bk42s l ≤ 1048576 ∧ bk42s y ≤ 1048576) :
    Calls Try.prog 37 #[.slice A l.length c, .slice P p.length d, .slice B y.length b] w fun e w' => ∃ A' c', e = .returned (.tuple #[.slice A' (putR p l y).1.length c', .bool (putR p l y).2]) ∧ (putR p l y).1.length ≤ c' ∧ Kd.C k42 w' A' (putR p l y).1.length (putR p l y).1 ∧ Below w.heap.size w w' := by
  have hat := At.calls A c l P d p w hC hc hP hd hpl; rw [atR_eq] at hat; obtain ⟨m, hm⟩ : ∃ m, m = p.length := ⟨_, rfl⟩; rw [← hm] at hat hd hpl ⊢; have HAT := Aside0.mk hat; have HC := Aside0.mk hC; have HCC := Aside0.mk hc; have HP := Aside0.mk hP; have HD := Aside0.mk hd; have HY := Aside0.mk hY; have HYY := Aside0.mk hy; have HM := Aside0.mk hm; have HPL := Aside0.mk hpl; have HBK := Aside0.mk hb; clear hC hc hP hd hY hy hpl hb hm hat
  go_enter Try.func37, Try.ntmps37
  go_wp2_with fail
  refine HAT.out.mono ?_; rintro e w1 ⟨A', c', rfl, hl', hC', hb1⟩; clear hl' hC'; obtain ⟨q0, hq0⟩ : ∃ q, q = (rAR p l).1.f0 := ⟨_, rfl⟩; obtain ⟨q1, hq1⟩ : ∃ q, q = (rAR p l).1.f1 := ⟨_, rfl⟩; obtain ⟨q2, hq2⟩ : ∃ q, q = (rAR p l).1.f2.length := ⟨_, rfl⟩; obtain ⟨rb, hrb⟩ : ∃ q, q = (rAR p l).2 := ⟨_, rfl⟩; rw [← hq0, ← hq1, ← hq2, ← hrb]; clear hq0 hq1 hq2; have hb2 : Below w1.heap.size w1 (w1.alloc (.cells #[.int .i64 q0, .string q1, .slice A' q2 c'] 42)) := (Below.refl _ _).alloc (Nat.le_refl _) _; obtain ⟨W2, hW2⟩ : ∃ W2, w1.alloc (.cells #[.int .i64 q0, .string q1, .slice A' q2 c'] 42) = W2 := ⟨_, rfl⟩; rw [hW2] at hb2; have HW2 := Aside0.mk hW2; have HB2 := Aside0.mk (q12 hb1 hb2); clear hb1 hb2 hW2
  rcases hra : rA p l with _ | x
  · have hrf : rb = false := by rw [hrb]; unfold rAR; rw [hra]
    have HR : Aside0 (putR p l y = ([], false)) := ⟨by unfold putR; rw [hra]⟩; subst hrf; clear hrb hra
    go_upto_region 2 with fail
    rw [HW2.out]
    go_wp2_with fail
    go_ret2
    rw [HR.out]; exact ⟨none, 0, rfl, Nat.le_refl _, Kd.C_nil _ _, HB2.out⟩
  · have hrf : rb = true := by rw [hrb]; unfold rAR; rw [hra]
    have HR : Aside0 (putR p l y = (putG p l y, true)) := ⟨by unfold putR; rw [hra]⟩; have hlead := leads_of p l x hra; subst hrf
    obtain ⟨q, i, hqi⟩ : ∃ q i, p = q ++ [i] := by
      rcases List.eq_nil_or_concat p with h | ⟨q, i, h⟩
      · subst h; rw [rA] at hra; cases hra
      · exact ⟨q, i, by simpa using h⟩
    obtain ⟨m0, hm0⟩ : ∃ m0, m0 = q.length := ⟨_, rfl⟩
    have hmm : m = m0 + 1 := by rw [HM.out, hqi, hm0]; simp
    have HG : Aside0 (putG p l y = plug q l (((sub q l).take i.toNat ++ y) ++ (sub q l).drop (i.toNat + 1))) := ⟨by rw [hqi]; exact putG_plug q i l y (by rw [← hqi]; exact hlead)⟩; have HLEAD := Aside0.mk hlead; have HQI := Aside0.mk hqi; have HM0 := Aside0.mk hm0; have HMM := Aside0.mk hmm
    have hm1 : m0 < m := by omega
    have hpl := HPL.out
    have hwm : IntKind.i64.wrap ((m : Int) - 1) = (m0 : Int) := by rw [i64_w]; rw [wrap64_id (by omega) (by omega)]; omega
    obtain ⟨i1, hinf1, hz01, hsz1, hz21⟩ := info_parts info_int'; have hct := cut_to (P := Try.prog) 43 3 .i64 Try.underlying43 hinf1 P m d (m0 : Int) (by omega) (by omega) HD.out; rw [Int.toNat_natCast] at hct; clear hrb hra hlead hqi hm0 hmm hinf1 hz01 hsz1 hz21 hpl
    go_upto_region 4 with fail
    rw [HW2.out]
    go_wp2_with fail
    refine (Copy.calls w (SizeOf.sizeOf l) A c l W2 (Nat.le_refl _) HC.out HCC.out HB2.out (by have := HBK.out; omega)).mono ?_; rintro e w3 ⟨v, rfl, ho3, hb3⟩; obtain ⟨Av, cv, rfl⟩ := ho3.form; have hf := Foc.start (OT.mono ho3 (Nat.le_refl _) (Nat.le_refl _)); have hb4 : Below w3.heap.size w3 (w3.alloc (.cells #[.slice Av l.length cv] 22)) := (Below.refl _ _).alloc (Nat.le_refl _) _
    have hs4 : (w3.alloc (.cells #[.slice Av l.length cv] 22)).heap.size = w3.heap.size + 1 := by simp
    obtain ⟨W4, hW4⟩ : ∃ W4, w3.alloc (.cells #[.slice Av l.length cv] 22) = W4 := ⟨_, rfl⟩; rw [hW4] at hf hb4 hs4; have HW4 := Aside0.mk hW4; have HF4 := Aside0.mk hf; have HB4 := Aside0.mk (q12 (q12 HB2.out hb3) hb4); have HB23 := Aside0.mk hb3.size; have HS4 := Aside0.mk hs4; clear ho3 hb3 hf hb4 hs4 hW4
    go_upto_region 6 with fail
    rw [HW4.out]
    go_wp2_with fail
    obtain ⟨pad, hpad, _⟩ := Kd.at_int HP.out (0 : Int) (by omega) (by have := HM.out; omega); subst hpad
    go_loop [11, 31] (fun a i => ∃ (k n g off lo hi : Nat) (u : Value), i = .int .i64 k ∧ a = .pointer (some ⟨g, off, none⟩) ∧ k ≤ m0 ∧ Aside0 (Foc W4 w3.heap.size l n (p.take k) g off lo hi u) ∧ Aside0 (w.heap.size ≤ g ∧ w.heap.size ≤ lo)) (fun a i => m0 - (intOf i).toNat)
    case atStart => exact ⟨0, _, _, _, _, _, _, rfl, rfl, Nat.zero_le _, HF4, ⟨by have := HB2.out.size; have := HB23.out; omega, HB2.out.size⟩⟩
    case round =>
      obtain ⟨k, n, g, off, lo, hi, u, rfl, rfl, hk, HF, HGE⟩ := hrel; have hk0 : (0 : Int) ≤ (k : Int) := Int.natCast_nonneg _
      by_cases hlt : k < m0
      · obtain ⟨pad', hpad', hpc⟩ := Kd.at_int HP.out (k : Int) (by omega) (by have := HM.out; omega)
        injection hpad' with hpad'
        subst hpad'; rw [Int.toNat_natCast] at hpc
        have hkp : k < p.length := by have := HM.out; omega
        have hrd : rd p (k : Int) = p[k] := by simp [rd, List.getD_eq_getElem?_getD, List.getElem?_eq_getElem hkp]
        rw [hrd] at hpc; replace hpc := (HB4.out.cell (World.block_lt_of_cell? w _ hpc)).trans hpc; obtain ⟨hi0, hi1, hl0, htk⟩ := leads_at HLEAD.out k hkp; obtain ⟨ik, hik⟩ := Int.eq_ofNat_of_zero_le hi0; rw [hik] at hpc hi1 htk; rw [Int.toNat_natCast] at hi1; obtain ⟨b1, cu, n', lo', hi', u', hu, hcu, hg1, hg2, hf'⟩ := HF.out.step ik hi1 (by have := sub_bk _ _ hl0; have := HBK.out; omega); rw [← htk] at hf'; obtain ⟨x0, x1, x2⟩ := foc_cell HF.out.blk; obtain ⟨n1, hn1⟩ : ∃ n1, n1 = (sub (p.take k) l).length := ⟨_, rfl⟩; rw [← hn1] at hi1 hu hcu; rw [hu] at x0
        have hi2 : (ik : Int) < (n1 : Int) := by omega
        have hi3 : (0 : Int) ≤ (ik : Int) := Int.natCast_nonneg _; have HF' := Aside0.mk hf'
        have hkw : IntKind.i64.wrap ((k : Int) + 1) = (k : Int) + 1 := by have := HPL.out; rw [i64_w]; rw [wrap64_id (by omega) (by omega)]
        have hkb : decide ((k : Int) < (m0 : Int)) = true := decide_eq_true (by omega)
        have hkl : (k : Int) < (m0 : Int) := by omega
        have HGE' : Aside0 (w.heap.size ≤ b1 ∧ w.heap.size ≤ lo') := ⟨by have := HGE.out; omega, by have := HGE.out; omega⟩; clear hrd hik htk hf' hu hn1 hl0 hi0 HF hg1 hg2
        go_wp2_with fail
        exact ⟨⟨k + 1, n', b1, ik * 3 + 2, lo', hi', u', by go_num, rfl, by omega, HF', HGE'⟩, by simp [intOf]; omega⟩
      · have hkm : k = m0 := by omega
        subst hkm
        have hkp : k < p.length := by have := HM.out; omega
        obtain ⟨pad', hpad', hpc⟩ := Kd.at_int HP.out (k : Int) (by omega) (by have := HM.out; omega)
        injection hpad' with hpad'
        subst hpad'; rw [Int.toNat_natCast] at hpc
        have hrd : rd p (k : Int) = p[k] := by simp [rd, List.getD_eq_getElem?_getD, List.getElem?_eq_getElem hkp]
        have hpi : p[k] = i := by
          have h := HQI.out
          have : p[k]? = some i := by rw [h, HM0.out]; simp
          rw [List.getElem?_eq_getElem hkp] at this; injection this
        have hpq : p.take k = q := by rw [HQI.out, HM0.out]; simp
        rw [hrd, hpi] at hpc; replace hpc := (HB4.out.cell (World.block_lt_of_cell? w _ hpc)).trans hpc; obtain ⟨hi0, hi1, hl0, htk⟩ := leads_at HLEAD.out k hkp; rw [hpi] at hi0 hi1; rw [hpq] at hi1 hl0; have HF0 : Aside0 (Foc W4 w3.heap.size l n q g off lo hi u) := ⟨by rw [← hpq]; exact HF.out⟩; have hsb := sub_bk _ _ hl0; obtain ⟨x0, x1, x2⟩ := foc_cell HF0.out.blk; obtain ⟨cur, hcur⟩ : ∃ cur, cur = sub q l := ⟨_, rfl⟩; have htree := HF0.out.tree; have HG' : Aside0 (putG p l y = plug q l ((cur.take i.toNat ++ y) ++ cur.drop (i.toNat + 1))) := ⟨by rw [hcur]; exact HG.out⟩; rw [← hcur] at hi1 hsb htree; obtain ⟨Au, cu, rfl, hcu, hFu⟩ := htree.foot (by have := HBK.out; omega); have hcb := bk_len cur; have hfu : Kd.F k42 W4 (fun k => k ≠ g) Au cur.length cur := Kd.F_mono hFu (fun k hk e => HF0.out.out (by rw [← e]; exact hk)); obtain ⟨i0, hinf, hz0, hsz, hz2⟩ := info_parts info_term'; obtain ⟨la, hla⟩ : ∃ la, la = cur.take i.toNat := ⟨_, rfl⟩; obtain ⟨lb, hlb⟩ : ∃ lb, lb = cur.drop (i.toNat + 1) := ⟨_, rfl⟩; have hca := cut_to (P := Try.prog) 22 42 .i64 Try.underlying22 hinf Au cur.length cu i hi0 (by omega) hcu; have hcf := cut_from (P := Try.prog) 22 42 .i64 Try.underlying22 hinf 3 hsz Au cur.length cu (i + 1) (by omega) (by omega)
        have ha1 : la.length = i.toNat := by rw [hla, List.length_take]; omega
        have hb1 : lb.length = cur.length - (i + 1).toNat := by rw [hlb, List.length_drop]; omega
        have hFa : Kd.F k42 W4 (fun k => k ≠ g) Au la.length la := by rw [hla]; exact Kd.F_take hfu (by omega)
        have hFb := Kd.F_cut (c := cu) hfu (m := (i + 1).toNat) (by omega) hcu; rw [show cur.drop (i + 1).toNat = lb from by rw [hlb]; congr 1; omega] at hFb; obtain ⟨A3, hA3⟩ : ∃ A3, A3 = (if cu = (i + 1).toNat then Au else Au.map (·.add ((i + 1).toNat * 3))) := ⟨_, rfl⟩
        replace hFb : Kd.F k42 W4 (fun k => k ≠ g) A3 lb.length lb := by rw [hA3]; exact hFb
        obtain ⟨c3, hc3⟩ : ∃ c3, c3 = cu - (i + 1).toNat := ⟨_, rfl⟩; rw [← ha1] at hca; rw [← hb1, ← hA3, ← hc3] at hcf
        have hwi : IntKind.i64.wrap (i + 1) = i + 1 := by rw [i64_w]; have := HBK.out; rw [wrap64_id (by omega) (by omega)]
        have HFa := Aside0.mk hFa; have HFb := Aside0.mk hFb; have HA1 : Aside0 (la.length ≤ cu ∧ lb.length ≤ c3 ∧ la.length + lb.length ≤ 1048576) := ⟨by omega, by omega, by have := HBK.out; omega⟩; have HG2 : Aside0 (putG p l y = plug q l ((la ++ y) ++ lb)) := ⟨by rw [hla, hlb]; exact HG'.out⟩; have hkb : decide ((k : Int) < (k : Int)) = false := decide_eq_false (by omega)
        have hkl : (k : Int) < (m : Int) := by omega
        clear htk; clear hkp hrd hpi hpq hl0 HF hsb hcur htree HG' hcb hfu hinf hz0 hsz hz2 hla hlb ha1 hb1 hFa hFb hA3 hc3 hi1 hFu HG; obtain ⟨l7, hl7⟩ : ∃ l7, l7 = (la ++ y) ++ lb := ⟨_, rfl⟩; have HFL : Aside0 ([la, y, lb].flatten = l7) := ⟨by rw [hl7]; simp⟩; have HG7 : Aside0 (putG p l y = plug q l l7) := ⟨by rw [hl7]; exact HG2.out⟩; have HLN : Aside0 (lens [la, y, lb] * 48 ≤ 140737488355328) := ⟨by have := HA1.out; have := HBK.out; have := bk_len y; simp only [lens]; omega⟩; have HX2 := Aside0.mk x2; clear hl7
        go_wp2_with fail
        go_region_with (first
          | (go_at_call 80; (with_reducible refine (Copy.calls w (SizeOf.sizeOf y) B b y _ (Nat.le_refl _) HY.out HYY.out (below_drew HB4.out) (by have := HBK.out; omega)).mono ?_); rintro e w5 ⟨vy, rfl, hoy, hb5⟩; obtain ⟨Ay, cy, rfl, hcy, hFy⟩ := hoy.foot (by have := HBK.out; omega); have HCY := Aside0.mk hcy; have HFy := Aside0.mk (Kd.F_mono (ok' := fun k => k ≠ g) hFy (fun k hk e => by have h1 := HX2.out; have h2 : W4.heap.size ≤ k := hk.1; omega)); have HFa5 := Aside0.mk (Kd.F_below (Kd.F_drew HFa.out) hb5); have HFb5 := Aside0.mk (Kd.F_below (Kd.F_drew HFb.out) hb5); have HB5 := Aside0.mk (q12 (below_drew HB4.out) hb5); have HB45 := Aside0.mk hb5; have z0 := (hb5.cell (World.block_lt_of_cell? _ _ x0)).trans x0; clear hoy hb5 hcy hFy)
          | (go_at_call 110; have hb6 : Below w5.heap.size w5 (w5.alloc (.cells #[.slice Au la.length cu, .slice Ay y.length cy, .slice A3 lb.length c3] 22)) := (Below.refl _ _).alloc (Nat.le_refl _) _; have HG5 : Aside0 (g < w5.heap.size) := ⟨by have h1 := HX2.out; have h2 : W4.heap.size ≤ w5.heap.size := HB45.out.size; omega⟩; refine (concat.calls (some ⟨w5.heap.size, 0, none⟩) 3 [la, y, lb] _ (fun k => k ≠ g) (rows3_F (World.alloc_heap_new w5 _) (by have := HG5.out; omega) HA1.out.1 (Kd.F_below HFa5.out hb6) HCY.out (Kd.F_below HFy.out hb6) HA1.out.2.1 (Kd.F_below HFb5.out hb6)) HLN.out).mono ?_; rintro e w7 ⟨v7, rfl, hN7, hb7⟩; rw [HFL.out] at hN7; have HN7 := Aside0.mk (Kd.N_mono hN7 (fun k hk => show k ≠ g from hk.elim id (fun h e => by have h1 := HG5.out; have h2 := hb6.size; omega))); have HB57 := Aside0.mk (q12 hb6 hb7); have HB7 := Aside0.mk (q12 HB5.out HB57.out); have HB47 := Aside0.mk (q12 (below_drew (Below.refl W4.heap.size W4)) (q12 HB45.out HB57.out)); have y0 := (HB57.out.cell (World.block_lt_of_cell? _ _ z0)).trans z0; have y1 : w7.frozen? ⟨g, off, none⟩ = false := (HB47.out.frozen (p := ⟨g, off, none⟩) HX2.out).trans x1; obtain ⟨A7, c7, rfl⟩ := Kd.N_slice HN7.out; clear hb6 hN7 hb7))
        all_goals
          obtain ⟨hn1, hn2, hn3⟩ := Kd.N_reads' (Kd.N_far (p := ⟨g, off, none⟩) HN7.out (fun k hk => hk) (.slice A7 l7.length c7))
          have hset : ∀ cs t, W4.heap[g]? = some (.cells cs t (0, 0)) → (w7.setCell ⟨g, off, none⟩ (.slice A7 l7.length c7)).heap[g]? = some (.cells (cs.setIfInBounds off (.slice A7 l7.length c7)) t (0, 0)) := fun cs t h => blk_set ((HB47.out.block g HX2.out).trans h) _ _
          obtain ⟨Af, cf, hf1, hf2, hf3⟩ := HF0.out.change (w7.setCell ⟨g, off, none⟩ (.slice A7 l7.length c7)) A7 c7 l7 (fun j h1 h2 _ => (Below.heap_setCell w7 ⟨g, off, none⟩ _ j h2).trans (HB47.out.block j h1)) hset hn2 hn3; have hbf := HB7.out.setCell (p := ⟨g, off, none⟩) HGE.out.1 (.slice A7 l7.length c7); obtain ⟨pl, hpl⟩ : ∃ pl, pl = plug q l l7 := ⟨_, rfl⟩; rw [← hpl] at hf1 hf2 hf3; have HPF : Aside0 (putR p l y = (pl, true)) := ⟨by rw [HR.out, HG7.out, hpl]⟩; have HF2 := Aside0.mk hf2; have HF3 := Aside0.mk hf3; have HBF := Aside0.mk hbf; clear hn1 hn2 hn3 hset hf2 hf3 hbf hpl x0 x1 x2 z0 y0 y1
          go_wp2_with fail
          go_ret2
          rw [HPF.out]; exact ⟨Af, cf, rfl, HF2.out, HF3.out, HBF.out⟩
end Go.Proofs.Ytjhjhhibbmligaa.TE
end
section
namespace Go.Proofs.Ytjhjhhibbmligaa.TE
open Go.RowKit Go.Shelf Go.Proofs.YtjhjhhibbmligaaW.PrintWords Go.Proofs.YtjhjhhibbmligaaW.PrintLast Go.Proofs.YtjhjhhibbmligaaW.PrintMore Go.Proofs.Ytjhjhhibbmligaa.Evs
set_option linter.unusedVariables false
set_option linter.unusedSimpArgs false
theorem rowsE3 {w : World} {A B C : Option Addr} {c d e : Nat} {l m n : List Tm} (hl : Kd.C k42 w A l.length l) (hc : l.length ≤ c) (hm : Kd.C k42 w B m.length m) (hd : m.length ≤ d) (hn : Kd.C k42 w C n.length n) (he : n.length ≤ e) :
    Kd.C (Kd.slice 42 k42) (w.alloc (.cells #[.slice A l.length c, .slice B m.length d, .slice C n.length e] 22)) (some ⟨w.heap.size, 0, none⟩) 3 [l, m, n] := by
  have hb : Below w.heap.size w (w.alloc (.cells #[.slice A l.length c, .slice B m.length d, .slice C n.length e] 22)) := (Below.refl _ _).alloc (Nat.le_refl _) _; have hk := World.alloc_heap_new w (.cells #[.slice A l.length c, .slice B m.length d, .slice C n.length e] 22); have hz : (Kd.slice 42 k42).sz = 1 := rfl; refine ⟨rfl, by decide, fun _ => ⟨_, rfl, fun j p hp => ?_⟩⟩
  match j, hp with
  | 0, hp =>
    obtain rfl : l = p := by simpa using hp
    refine ⟨[.slice A l.length c], rfl, ⟨A, c, rfl, hc, Kd.C_below hl hb⟩, fun i u hu => ?_⟩; rw [add_plain]; refine (q4 hk _).trans ?_
    match i, hu with
    | 0, hu => exact hu
  | 1, hp =>
    obtain rfl : m = p := by simpa using hp
    refine ⟨[.slice B m.length d], rfl, ⟨B, d, rfl, hd, Kd.C_below hm hb⟩, fun i u hu => ?_⟩; rw [add_plain]; refine (q4 hk _).trans ?_
    match i, hu with
    | 0, hu => exact hu
  | 2, hp =>
    obtain rfl : n = p := by simpa using hp
    refine ⟨[.slice C n.length e], rfl, ⟨C, e, rfl, he, Kd.C_below hn hb⟩, fun i u hu => ?_⟩; rw [add_plain]; refine (q4 hk _).trans ?_
    match i, hu with
    | 0, hu => exact hu
theorem in_at {A1 A2 : Option Addr} {c1 c2 : Nat} {a b : List Tm} {w : World} (ha : Kd.C k42 w A1 a.length a) (hb : Kd.C k42 w A2 b.length b) (hc1 : a.length ≤ c1) (hc2 : b.length ≤ c2) (h1 : bk42s a ≤ 1048576) (h2 : bk42s b ≤ 1048576) (r : Bool) (hr : embL a b = r) (W : World) (h : Below w.heap.size w W) :
    Calls Try.prog 25 #[.slice A1 a.length c1, .slice A2 b.length c2] W fun e W' => e = .returned (.bool r) ∧ Below w.heap.size w W' := by
  have f1 := flat_len a; have f2 := flat_len b; subst hr; refine (In.calls A1 A2 c1 c2 a b W (Kd.C_below ha h) (Kd.C_below hb h) hc1 hc2 (by omega) (by omega)).mono ?_; rintro e W' ⟨rfl, hb'⟩; exact ⟨rfl, q12 h hb'⟩
theorem rA_bk : ∀ (p : List Int) (l : List Tm) (x : Tm), rA p l = some x → bk42s x.f2 ≤ bk42s l
  | [], l, x, h => by rw [rA] at h; cases h
  | i :: r, l, x, h => by
    obtain ⟨h0, h1, h2⟩ := rA_cons h; have hm := bk_mem (List.getElem_mem h1)
    by_cases hr : r = []
    · rw [rA, dif_pos ⟨h0, h1⟩, if_pos hr] at h
      injection h with h
      subst h
      omega
    · have ih := rA_bk r _ x (h2 hr); rw [rd_in h1] at ih
      omega
theorem size_at {A : Option Addr} {c : Nat} {a : List Tm} {w : World} (ha : Kd.C k42 w A a.length a) (hc : a.length ≤ c) (h1 : bk42s a ≤ 1048576) (W : World) (h : Below w.heap.size w W) :
    Calls Try.prog 35 #[.slice A a.length c] W fun e W' => e = .returned (.tuple #[.int .i64 ((flat a).length : Int), .int .i64 (dpL 0 a)]) ∧ Below w.heap.size w W' := by
  obtain ⟨k1, hk1⟩ := (size_ev (show bk42s a ≤ 1099511627776 by omega)).get; refine (term_Size.calls k1 A c a _ _ W (Kd.C_below ha h) hc hk1).mono ?_; rintro e W' ⟨rfl, hb'⟩; exact ⟨rfl, q12 h hb'⟩
set_option maxRecDepth 100000 in
set_option maxHeartbeats 4000000 in
theorem EmbedOrder.calls (A1 : Option Addr) (c1 : Nat) (a : List Tm) (A2 : Option Addr) (c2 : Nat) (b : List Tm) (A3 : Option Addr) (c3 : Nat) (c : List Tm) (P : Option Addr) (d : Nat) (p : List Int) (w : World) (hA : Kd.C k42 w A1 a.length a) (hc1 : a.length ≤ c1) (hB : Kd.C k42 w A2 b.length b) (hc2 : b.length ≤ c2) (hC : Kd.C k42 w A3 c.length c) (hc3 : c.length ≤ c3)
    (hP : Kd.C (Kd.int .i64) w P p.length p) (hd : p.length ≤ d) (ok1 : ok42s a) (ok2 : ok42s b) (ok3 : ok42s c) (hb : bk42s a + bk42s b + bk42s c + p.length ≤ 1048576) :
    Calls Try.prog 6 #[.slice A1 a.length c1, .slice A2 b.length c2, .slice A3 c.length c3, .slice P p.length d] w fun e w' => e = .returned (.bool true) ∧ Below w.heap.size w w' := by
  have hu42 := Try.underlying42
  have b1 : bk42s a ≤ 1048576 := by omega
  have b2 : bk42s b ≤ 1048576 := by omega
  have b3 : bk42s c ≤ 1048576 := by omega
  have hpl : p.length ≤ 1048576 := by omega
  have hcall0 := Flat.calls 60 (some ⟨w.heap.size, 0, none⟩) 3 3 [a, b, c] _ (rowsE3 hA hc1 hB hc2 hC hc3) rfl (Nat.le_refl _) (fun x hx => by
    simp only [List.mem_cons, List.not_mem_nil, or_false] at hx
    rcases hx with rfl | rfl | rfl <;> omega)
  have hbl : Below w.heap.size w (w.alloc (.cells #[.slice A1 a.length c1, .slice A2 b.length c2, .slice A3 c.length c3] 22)) := (Below.refl _ _).alloc (Nat.le_refl _) _; obtain ⟨W0, hW0⟩ : ∃ W0, w.alloc (.cells #[.slice A1 a.length c1, .slice A2 b.length c2, .slice A3 c.length c3] 22) = W0 := ⟨_, rfl⟩; have HW0 := Aside0.mk hW0; rw [hW0] at hcall0 hbl; obtain ⟨ab, hab⟩ : ∃ x, embL a b = x := ⟨_, rfl⟩; obtain ⟨bc, hbc⟩ : ∃ x, embL b c = x := ⟨_, rfl⟩; obtain ⟨ac, hac⟩ : ∃ x, embL a c = x := ⟨_, rfl⟩; obtain ⟨ba, hba⟩ : ∃ x, embL b a = x := ⟨_, rfl⟩; have HAA := Aside0.mk (in_at hA hA hc1 hc1 b1 b1 true (or_refl a)); have HAB := Aside0.mk (in_at hA hB hc1 hc2 b1 b2 ab hab); have HBC := Aside0.mk (in_at hB hC hc2 hc3 b2 b3 bc hbc); have HAC := Aside0.mk (in_at hA hC hc1 hc3 b1 b3 ac hac); have HBA := Aside0.mk (in_at hB hA hc2 hc1 b2 b1 ba hba); have HTR : Aside0 (ab = true → bc = true → ac = true) := ⟨fun h1 h2 => by rw [← hac]; exact or_trans (hab.trans h1) (hbc.trans h2)⟩; have HGT : Aside0 ((flat b).length < (flat a).length → ab = false) := ⟨fun h => by rw [← hab]; exact or_size h⟩; have HEQ : Aside0 ((flat a).length = (flat b).length → ab = ba) := ⟨fun h => by rw [← hab, ← hba]; exact or_anti h⟩; have HSA := Aside0.mk (size_at hA hc1 b1); have HSB := Aside0.mk (size_at hB hc2 b2); obtain ⟨n, hn⟩ : ∃ n, n = (flat a).length := ⟨_, rfl⟩; obtain ⟨m, hm⟩ : ∃ n, n = (flat b).length := ⟨_, rfl⟩; rw [← hn, ← hm] at HGT HEQ; rw [← hn] at HSA; rw [← hm] at HSB; obtain ⟨da, hda⟩ : ∃ n, n = dpL 0 a := ⟨_, rfl⟩; obtain ⟨db, hdb⟩ : ∃ n, n = dpL 0 b := ⟨_, rfl⟩; rw [← hda] at HSA; rw [← hdb] at HSB; have HA := Aside0.mk hA; have HP := Aside0.mk hP; have HC1 := Aside0.mk hc1; have HD := Aside0.mk hd; have HBL := Aside0.mk hbl; have HCALL0 := Aside0.mk hcall0; have HB1 := Aside0.mk b1; have HPL := Aside0.mk hpl
  have haw : ∀ w2, Below w.heap.size w w2 → Calls Try.prog 16 #[] w2 fun e W' => e = .returned (.bool true) ∧ Below w.heap.size w W' := fun w2 h => (awakeE.calls w2).mono (by rintro e W' ⟨rfl, h2⟩; exact ⟨rfl, q12 h h2⟩)
  have HAW := Aside0.mk haw; clear hA hB hC hP hc1 hc2 hc3 hd ok1 ok2 ok3 hb b1 b2 b3 hpl hcall0 hbl hW0 haw hab hbc hac hba hn hm hda hdb
  go_enter Try.func6, Try.ntmps6
  go_wp2_with fail
  rw [HW0.out]; refine HCALL0.out.mono ?_; rintro e w1 ⟨⟨s, rfl⟩, hb1⟩; have HBB1 := Aside0.mk (q12 HBL.out hb1); clear hb1
  by_cases hgo : s = true ∧ p.length ≤ 20
  · obtain ⟨rfl, g1⟩ := hgo; have d1 : decide ((p.length : Int) > 20) = false := decide_eq_false (by omega)
    go_upto_region 3 with fail
    go_cut [50] (fun v50 wc => v50 = .bool false ∧ Aside0 (Below w.heap.size w wc))
    case first =>
      go_wp2_with fail
      refine (HAA.out _ HBB1.out).mono ?_; rintro e w2 ⟨rfl, hb2⟩; have HB2 := Aside0.mk hb2; clear hb2
      go_wp2_with fail
      refine (HAB.out _ HB2.out).mono ?_; rintro e w3 ⟨rfl, hb3⟩; have HB3 := Aside0.mk hb3; clear hb3
      cases ab with
      | false =>
        go_wp2_with fail
        go_meet
        case rel => exact ⟨rfl, HB3⟩
      | true =>
        go_wp2_with fail
        refine (HBC.out _ HB3.out).mono ?_; rintro e w4 ⟨rfl, hb4⟩; have HB4 := Aside0.mk hb4; clear hb4
        cases bc with
        | false =>
          go_wp2_with fail
          go_meet
          case rel => exact ⟨rfl, HB4⟩
        | true =>
          have hac : ac = true := by have := HTR.out; simpa using this
          subst hac
          go_wp2_with fail
          refine (HAC.out _ HB4.out).mono ?_; rintro e w5 ⟨rfl, hb5⟩; have HB5 := Aside0.mk hb5; clear hb5
          go_wp2_with fail
          go_meet
          case rel => exact ⟨rfl, HB5⟩
    case rest =>
      obtain ⟨rfl, HBc⟩ := hcut
      go_wp2_with fail
      refine (HSA.out _ HBc.out).mono ?_; rintro e w2 ⟨rfl, hb2⟩; have HB2 := Aside0.mk hb2; clear hb2
      go_wp2_with fail
      refine (HSB.out _ HB2.out).mono ?_; rintro e w3 ⟨rfl, hb3⟩; have HB3 := Aside0.mk hb3; clear hb3
      go_upto_region 7 with fail
      go_cut [82] (fun v82 wc => v82 = .bool false ∧ Aside0 (Below w.heap.size w wc))
      case first =>
        have hn0 : (0 : Int) ≤ (n : Int) := Int.natCast_nonneg _; have hm0 : (0 : Int) ≤ (m : Int) := Int.natCast_nonneg _
        rcases Nat.lt_trichotomy n m with hlt | heq | hgt
        · have e1 : decide ((n : Int) > (m : Int)) = false := decide_eq_false (by omega)
          have e2 : ((n : Int) == (m : Int)) = false := by simp; omega
          go_wp2_with fail
          go_meet
          case rel => exact ⟨rfl, HB3⟩
        · have hab := HEQ.out heq; subst hab; subst heq; have e1 : decide ((n : Int) > (n : Int)) = false := decide_eq_false (by omega)
          have e2 : ((n : Int) == (n : Int)) = true := by simp
          have e3 : (ab != ab) = false := by simp
          have e4 : (ab == ab) = true := by simp
          go_wp2_with fail
          refine (HAB.out _ HB3.out).mono ?_; rintro e w4 ⟨rfl, hb4⟩; have HB4 := Aside0.mk hb4; clear hb4
          go_wp2_with fail
          refine (HBA.out _ HB4.out).mono ?_; rintro e w5 ⟨rfl, hb5⟩; have HB5 := Aside0.mk hb5; clear hb5
          go_wp2_with fail
          go_meet
          case rel => exact ⟨rfl, HB5⟩
        · have e1 : decide ((n : Int) > (m : Int)) = true := decide_eq_true (by omega)
          have e2 : ((n : Int) == (m : Int)) = false := by simp; omega
          have hab := HGT.out hgt; subst hab
          go_wp2_with fail
          refine (HAB.out _ HB3.out).mono ?_; rintro e w4 ⟨rfl, hb4⟩; have HB4 := Aside0.mk hb4; clear hb4
          go_wp2_with fail
          go_meet
          case rel => exact ⟨rfl, HB4⟩
      case rest =>
        obtain ⟨rfl, HBd⟩ := hcut; have hat := At.calls A1 c1 a P d p wc (Kd.C_below HA.out HBd.out) HC1.out (Kd.C_below HP.out HBd.out) HD.out HPL.out; rw [atR_eq] at hat
        rcases hra : rA p a with _ | x
        · have hR : rAR p a = (z42, false) := by unfold rAR; rw [hra]
          rw [hR] at hat; have HAT := Aside0.mk hat; clear hat hR hra
          go_wp2_with fail
          refine HAT.out.mono ?_; rintro e w4 ⟨A', c', rfl, hl', hC', hb4⟩; have HB4 := Aside0.mk (q12 HBd.out hb4); clear hl' hC' hb4
          go_wp2_with fail
          refine (HAW.out _ (below_al HB4.out _)).mono ?_; rintro e w5 ⟨rfl, hb5⟩; have HB5 := Aside0.mk hb5; clear hb5
          go_wp2_with fail
          go_ret; exact ⟨rfl, HB5.out⟩
        · have hR : rAR p a = (x, true) := by unfold rAR; rw [hra]
          rw [hR] at hat; have HAT := Aside0.mk hat; have HRA := Aside0.mk hra; clear hat hR hra
          go_wp2_with fail
          refine HAT.out.mono ?_; rintro e w4 ⟨A', c', rfl, hl', hC', hb4⟩; have HB4 := Aside0.mk (q12 HBd.out hb4); have HL' := Aside0.mk hl'; have HC' := Aside0.mk hC'; obtain ⟨k', hk'⟩ : ∃ k, k = x.f2.length := ⟨_, rfl⟩; have hb5 : Below w4.heap.size w4 (w4.alloc (.cells #[.int .i64 x.f0, .string x.f1, .slice A' x.f2.length c'] 42)) := (Below.refl _ _).alloc (Nat.le_refl _) _; have hn5 := World.alloc_heap_new w4 (.cells #[.int .i64 x.f0, .string x.f1, .slice A' x.f2.length c'] 42); obtain ⟨w5, hw5⟩ : ∃ w5, w4.alloc (.cells #[.int .i64 x.f0, .string x.f1, .slice A' x.f2.length c'] 42) = w5 := ⟨_, rfl⟩; rw [hw5] at hb5 hn5; have HW5 := Aside0.mk hw5; have HN5 := Aside0.mk hn5; have HB5 := Aside0.mk (q12 HB4.out hb5); have HC5 := Aside0.mk (Kd.C_below HC'.out hb5); clear hl' hC' hb4 hb5 hn5 hw5
          go_wp2_with fail
          rw [HW5.out]; refine (Put.calls p A1 c1 a P d none 0 [] w5 (Kd.C_below HA.out HB5.out) HC1.out (Kd.C_below HP.out HB5.out) HD.out (Kd.C_nil _ _) (Nat.le_refl _) HPL.out ⟨HB1.out, by simp [bk42s]⟩).mono ?_; rintro e w6 ⟨A6, c6, rfl, hl6, hC6, hb6⟩
          have hput : putR p a [] = (putG p a [], true) := by unfold putR; rw [HRA.out]
          rw [hput] at hl6 hC6 ⊢; have hin := or_less HRA.out; have hfa := flat_len a; have hb1' := HB1.out; have hlen := or_len hin; have HIN := Aside0.mk (In.calls A6 A1 c6 c1 (putG p a []) a w6 hC6 (Kd.C_below HA.out (q12 HB5.out hb6)) hl6 HC1.out (by omega) (by omega)); rw [hin] at HIN; obtain ⟨less, hless⟩ : ∃ less, less = putG p a [] := ⟨_, rfl⟩; rw [← hless] at HIN ⊢; have HB6 := Aside0.mk (q12 HB5.out hb6); have HB56 := Aside0.mk hb6; clear hput hl6 hC6 hb6 hin hfa hb1' hlen hless
          go_wp2_with fail
          refine HIN.out.mono ?_; rintro e w7 ⟨rfl, hb7⟩; have HB7 := Aside0.mk (q12 HB6.out hb7); have hb57 : Below w5.heap.size w5 w7 := q12 HB56.out hb7; have HC7 := Aside0.mk (Kd.C_below HC5.out hb57); have hn7 := q20 HN5.out hb57; have y2 : w7.cell? ⟨w4.heap.size, 2, none⟩ = some (.slice A' x.f2.length c') := (q4 hn7 2).trans rfl; have HK' := Aside0.mk hk'; rw [← hk'] at y2; have hk0 : (0 : Int) ≤ (k' : Int) := Int.natCast_nonneg _; clear hb7 hb57 hn7 hk'
          by_cases h1 : k' = 1
          · have e1 : ((k' : Int) == 1) = true := by simp; omega
            have hx1 : x.f2.length = 1 := by rw [← HK'.out]; exact h1
            have hput := Put.calls p A1 c1 a P d A' c' x.f2 w7 (Kd.C_below HA.out HB7.out) HC1.out (Kd.C_below HP.out HB7.out) HD.out HC7.out HL'.out HPL.out ⟨HB1.out, Nat.le_trans (rA_bk p a x HRA.out) HB1.out⟩; rw [show putR p a x.f2 = (putG p a x.f2, true) from by unfold putR; rw [HRA.out], hx1] at hput; have HPUT := Aside0.mk hput; have HX1 := Aside0.mk hx1; clear hput hx1
            go_wp2_with fail
            refine HPUT.out.mono ?_; rintro e w8 ⟨A8, c8, rfl, hl8, hC8, hb8⟩; have hin := or_dug HRA.out HX1.out; have hfa := flat_len a; have hb1' := HB1.out; have hlen := or_len hin; have HIN8 := Aside0.mk (In.calls A8 A1 c8 c1 (putG p a x.f2) a w8 hC8 (Kd.C_below HA.out (q12 HB7.out hb8)) hl8 HC1.out (by omega) (by omega)); rw [hin] at HIN8; obtain ⟨dug, hdug⟩ : ∃ dug, dug = putG p a x.f2 := ⟨_, rfl⟩; rw [← hdug] at HIN8 ⊢; have HB8 := Aside0.mk (q12 HB7.out hb8); clear hl8 hC8 hb8 hin hfa hb1' hlen hdug
            go_wp2_with fail
            refine HIN8.out.mono ?_; rintro e w9 ⟨rfl, hb9⟩; have HB9 := Aside0.mk (q12 HB8.out hb9); clear hb9
            go_wp2_with fail
            refine (HAW.out _ HB9.out).mono ?_; rintro e w10 ⟨rfl, hb10⟩; have HB10 := Aside0.mk hb10; clear hb10
            go_wp2_with fail
            go_ret; exact ⟨rfl, HB10.out⟩
          · have e1 : ((k' : Int) == 1) = false := by simp; omega
            go_wp2_with fail
            refine (HAW.out _ HB7.out).mono ?_; rintro e w8 ⟨rfl, hb8⟩; have HB8 := Aside0.mk hb8; clear hb8
            go_wp2_with fail
            go_ret; exact ⟨rfl, HB8.out⟩
  · cases s with
    | false =>
      go_wp2_with fail
      refine (HAW.out _ HBB1.out).mono ?_; rintro e w2 ⟨rfl, hb2⟩; have HB2 := Aside0.mk hb2; clear hb2
      go_wp2_with fail
      go_ret; exact ⟨rfl, HB2.out⟩
    | true =>
      have d1 : decide ((p.length : Int) > 20) = true := decide_eq_true (by have : ¬ p.length ≤ 20 := (fun h => hgo ⟨rfl, h⟩); omega)
      go_wp2_with fail
      refine (HAW.out _ HBB1.out).mono ?_; rintro e w2 ⟨rfl, hb2⟩; have HB2 := Aside0.mk hb2; clear hb2
      go_wp2_with fail
      go_ret; exact ⟨rfl, HB2.out⟩
end Go.Proofs.Ytjhjhhibbmligaa.TE
end
