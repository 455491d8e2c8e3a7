/- The law TermOrdered, by hand. -/
import Derived.Test.YtdbjjaodkapikaaKTEOrd2
import Derived.Test.YtdbjjaodkapikaaKTELErrors
import Derived.Test.YtdbjjaodkapikaaKTEParts2
section
namespace Go.Proofs.Ytdbjjaodkapikaa.TE
open Go.RowKit Go.Shelf Go.Proofs.YtdbjjaodkapikaaW.PrintWords Go.Proofs.YtdbjjaodkapikaaW.PrintLast Go.Proofs.YtdbjjaodkapikaaW.PrintMore Go.Proofs.Ytdbjjaodkapikaa.Evs
set_option linter.unusedVariables false
set_option linter.unusedSimpArgs false
set_option maxRecDepth 100000 in
set_option maxHeartbeats 4000000 in
theorem Put.calls (p : List Int) (A : Option Addr) (c : Nat) (l : List Tm) (P : Option Addr) (d : Nat) (B : Option Addr) (b : Nat) (y : List Tm) (w : World) (hC : Kd.C k42 w A l.length l) (hc : l.length ≤ c) (hP : Kd.C (Kd.int .i64) w P p.length p) (hd : p.length ≤ d) (hY : Kd.C k42 w B y.length y) (hy : y.length ≤ b) (hpl : p.length ≤ 1048576) (hb : bk42s l + bk42s y ≤ 1048576) :
    Calls Try.prog 33 #[.slice A l.length c, .slice P p.length d, .slice B y.length b] w fun e w' => ∃ A' c', e = .returned (.tuple #[.slice A' (putR p l y).1.length c', .bool (putR p l y).2]) ∧ (putR p l y).1.length ≤ c' ∧ Kd.C k42 w' A' (putR p l y).1.length (putR p l y).1 ∧ Below w.heap.size w w' := by
  have hat := At.calls A c l P d p w hC hc hP hd hpl; rw [atR_eq] at hat; obtain ⟨m, hm⟩ : ∃ m, m = p.length := ⟨_, rfl⟩; rw [← hm] at hat hd hpl ⊢; have HAT := Aside0.mk hat; have HC := Aside0.mk hC; have HCC := Aside0.mk hc; have HP := Aside0.mk hP; have HD := Aside0.mk hd; have HY := Aside0.mk hY; have HYY := Aside0.mk hy; have HM := Aside0.mk hm; have HPL := Aside0.mk hpl; have HBK := Aside0.mk hb; clear hC hc hP hd hY hy hpl hb hm hat
  go_enter Try.func33, Try.ntmps33
  go_wp2_with fail
  refine HAT.out.mono ?_; rintro e w1 ⟨A', c', rfl, hl', hC', hb1⟩; clear hl' hC'; obtain ⟨q0, hq0⟩ : ∃ q, q = (rAR p l).1.f0 := ⟨_, rfl⟩; obtain ⟨q1, hq1⟩ : ∃ q, q = (rAR p l).1.f1 := ⟨_, rfl⟩; obtain ⟨q2, hq2⟩ : ∃ q, q = (rAR p l).1.f2.length := ⟨_, rfl⟩; obtain ⟨rb, hrb⟩ : ∃ q, q = (rAR p l).2 := ⟨_, rfl⟩; rw [← hq0, ← hq1, ← hq2, ← hrb]; clear hq0 hq1 hq2; have hb2 : Below w1.heap.size w1 (w1.alloc (.cells #[.int .i64 q0, .string q1, .slice A' q2 c'] 42)) := (Below.refl _ _).alloc (Nat.le_refl _) _; obtain ⟨W2, hW2⟩ : ∃ W2, w1.alloc (.cells #[.int .i64 q0, .string q1, .slice A' q2 c'] 42) = W2 := ⟨_, rfl⟩; rw [hW2] at hb2; have HW2 := Aside0.mk hW2; have HB2 := Aside0.mk (q14 hb1 hb2); clear hb1 hb2 hW2
  rcases hra : rA p l with _ | x
  · have hrf : rb = false := by rw [hrb]; unfold rAR; rw [hra]
    have HR : Aside0 (putR p l y = ([], false)) := ⟨by unfold putR; rw [hra]⟩; subst hrf; clear hrb hra
    go_upto_region 2 with fail
    rw [HW2.out]
    go_wp2_with fail
    go_ret2
    rw [HR.out]; exact ⟨none, 0, rfl, Nat.le_refl _, Kd.C_nil _ _, HB2.out⟩
  · have hrf : rb = true := by rw [hrb]; unfold rAR; rw [hra]
    have HR : Aside0 (putR p l y = (putG p l y, true)) := ⟨by unfold putR; rw [hra]⟩; have hlead := leads_of p l x hra; subst hrf
    obtain ⟨q, i, hqi⟩ : ∃ q i, p = q ++ [i] := by
      rcases List.eq_nil_or_concat p with h | ⟨q, i, h⟩
      · subst h; rw [rA] at hra; cases hra
      · exact ⟨q, i, by simpa using h⟩
    obtain ⟨m0, hm0⟩ : ∃ m0, m0 = q.length := ⟨_, rfl⟩
    have hmm : m = m0 + 1 := by rw [HM.out, hqi, hm0]; simp
    have HG : Aside0 (putG p l y = plug q l (((sub q l).take i.toNat ++ y) ++ (sub q l).drop (i.toNat + 1))) := ⟨by rw [hqi]; exact putG_plug q i l y (by rw [← hqi]; exact hlead)⟩; have HLEAD := Aside0.mk hlead; have HQI := Aside0.mk hqi; have HM0 := Aside0.mk hm0; have HMM := Aside0.mk hmm
    have hm1 : m0 < m := by omega
    have hpl := HPL.out
    have hwm : IntKind.i64.wrap ((m : Int) - 1) = (m0 : Int) := by rw [i64_w]; rw [wrap64_id (by omega) (by omega)]; omega
    obtain ⟨i1, hinf1, hz01, hsz1, hz21⟩ := info_parts info_int'; have hct := cut_to (P := Try.prog) 40 3 .i64 Try.underlying40 hinf1 P m d (m0 : Int) (by omega) (by omega) HD.out; rw [Int.toNat_natCast] at hct; clear hrb hra hlead hqi hm0 hmm hinf1 hz01 hsz1 hz21 hpl
    go_upto_region 4 with fail
    rw [HW2.out]
    go_wp2_with fail
    refine (Copy.calls w (SizeOf.sizeOf l) A c l W2 (Nat.le_refl _) HC.out HCC.out HB2.out (by have := HBK.out; omega)).mono ?_; rintro e w3 ⟨v, rfl, ho3, hb3⟩; obtain ⟨Av, cv, rfl⟩ := ho3.form; have hf := Foc.start (OT.mono ho3 (Nat.le_refl _) (Nat.le_refl _)); have hb4 : Below w3.heap.size w3 (w3.alloc (.cells #[.slice Av l.length cv] 22)) := (Below.refl _ _).alloc (Nat.le_refl _) _
    have hs4 : (w3.alloc (.cells #[.slice Av l.length cv] 22)).heap.size = w3.heap.size + 1 := by simp
    obtain ⟨W4, hW4⟩ : ∃ W4, w3.alloc (.cells #[.slice Av l.length cv] 22) = W4 := ⟨_, rfl⟩; rw [hW4] at hf hb4 hs4; have HW4 := Aside0.mk hW4; have HF4 := Aside0.mk hf; have HB4 := Aside0.mk (q14 (q14 HB2.out hb3) hb4); have HB23 := Aside0.mk hb3.size; have HS4 := Aside0.mk hs4; clear ho3 hb3 hf hb4 hs4 hW4
    go_upto_region 6 with fail
    rw [HW4.out]
    go_wp2_with fail
    obtain ⟨pad, hpad, _⟩ := Kd.at_int HP.out (0 : Int) (by omega) (by have := HM.out; omega); subst hpad
    go_loop [11, 31] (fun a i => ∃ (k n g off lo hi : Nat) (u : Value), i = .int .i64 k ∧ a = .pointer (some ⟨g, off, none⟩) ∧ k ≤ m0 ∧ Aside0 (Foc W4 w3.heap.size l n (p.take k) g off lo hi u) ∧ Aside0 (w.heap.size ≤ g ∧ w.heap.size ≤ lo)) (fun a i => m0 - (intOf i).toNat)
    case atStart => exact ⟨0, _, _, _, _, _, _, rfl, rfl, Nat.zero_le _, HF4, ⟨by have := HB2.out.size; have := HB23.out; omega, HB2.out.size⟩⟩
    case round =>
      obtain ⟨k, n, g, off, lo, hi, u, rfl, rfl, hk, HF, HGE⟩ := hrel; have hk0 : (0 : Int) ≤ (k : Int) := Int.natCast_nonneg _
      by_cases hlt : k < m0
      · obtain ⟨pad', hpad', hpc⟩ := Kd.at_int HP.out (k : Int) (by omega) (by have := HM.out; omega)
        injection hpad' with hpad'
        subst hpad'; rw [Int.toNat_natCast] at hpc
        have hkp : k < p.length := by have := HM.out; omega
        have hrd : rd p (k : Int) = p[k] := by simp [rd, List.getD_eq_getElem?_getD, List.getElem?_eq_getElem hkp]
        rw [hrd] at hpc; replace hpc := (HB4.out.cell (World.block_lt_of_cell? w _ hpc)).trans hpc; obtain ⟨hi0, hi1, hl0, htk⟩ := leads_at HLEAD.out k hkp; obtain ⟨ik, hik⟩ := Int.eq_ofNat_of_zero_le hi0; rw [hik] at hpc hi1 htk; rw [Int.toNat_natCast] at hi1; obtain ⟨b1, cu, n', lo', hi', u', hu, hcu, hg1, hg2, hf'⟩ := HF.out.step ik hi1 (by have := sub_bk _ _ hl0; have := HBK.out; omega); rw [← htk] at hf'; obtain ⟨x0, x1, x2⟩ := foc_cell HF.out.blk; obtain ⟨n1, hn1⟩ : ∃ n1, n1 = (sub (p.take k) l).length := ⟨_, rfl⟩; rw [← hn1] at hi1 hu hcu; rw [hu] at x0
        have hi2 : (ik : Int) < (n1 : Int) := by omega
        have hi3 : (0 : Int) ≤ (ik : Int) := Int.natCast_nonneg _; have HF' := Aside0.mk hf'
        have hkw : IntKind.i64.wrap ((k : Int) + 1) = (k : Int) + 1 := by have := HPL.out; rw [i64_w]; rw [wrap64_id (by omega) (by omega)]
        have hkb : decide ((k : Int) < (m0 : Int)) = true := decide_eq_true (by omega)
        have hkl : (k : Int) < (m0 : Int) := by omega
        have HGE' : Aside0 (w.heap.size ≤ b1 ∧ w.heap.size ≤ lo') := ⟨by have := HGE.out; omega, by have := HGE.out; omega⟩; clear hrd hik htk hf' hu hn1 hl0 hi0 HF hg1 hg2
        go_wp2_with fail
        exact ⟨⟨k + 1, n', b1, ik * 3 + 2, lo', hi', u', by go_num, rfl, by omega, HF', HGE'⟩, by simp [intOf]; omega⟩
      · have hkm : k = m0 := by omega
        subst hkm
        have hkp : k < p.length := by have := HM.out; omega
        obtain ⟨pad', hpad', hpc⟩ := Kd.at_int HP.out (k : Int) (by omega) (by have := HM.out; omega)
        injection hpad' with hpad'
        subst hpad'; rw [Int.toNat_natCast] at hpc
        have hrd : rd p (k : Int) = p[k] := by simp [rd, List.getD_eq_getElem?_getD, List.getElem?_eq_getElem hkp]
        have hpi : p[k] = i := by
          have h := HQI.out
          have : p[k]? = some i := by rw [h, HM0.out]; simp
          rw [List.getElem?_eq_getElem hkp] at this; injection this
        have hpq : p.take k = q := by rw [HQI.out, HM0.out]; simp
        rw [hrd, hpi] at hpc; replace hpc := (HB4.out.cell (World.block_lt_of_cell? w _ hpc)).trans hpc; obtain ⟨hi0, hi1, hl0, htk⟩ := leads_at HLEAD.out k hkp; rw [hpi] at hi0 hi1; rw [hpq] at hi1 hl0; have HF0 : Aside0 (Foc W4 w3.heap.size l n q g off lo hi u) := ⟨by rw [← hpq]; exact HF.out⟩; have hsb := sub_bk _ _ hl0; obtain ⟨x0, x1, x2⟩ := foc_cell HF0.out.blk; obtain ⟨cur, hcur⟩ : ∃ cur, cur = sub q l := ⟨_, rfl⟩; have htree := HF0.out.tree; have HG' : Aside0 (putG p l y = plug q l ((cur.take i.toNat ++ y) ++ cur.drop (i.toNat + 1))) := ⟨by rw [hcur]; exact HG.out⟩; rw [← hcur] at hi1 hsb htree; obtain ⟨Au, cu, rfl, hcu, hFu⟩ := htree.foot (by have := HBK.out; omega); have hcb := bk_len cur; have hfu : Kd.F k42 W4 (fun k => k ≠ g) Au cur.length cur := Kd.F_mono hFu (fun k hk e => HF0.out.out (by rw [← e]; exact hk)); obtain ⟨i0, hinf, hz0, hsz, hz2⟩ := info_parts info_term'; obtain ⟨la, hla⟩ : ∃ la, la = cur.take i.toNat := ⟨_, rfl⟩; obtain ⟨lb, hlb⟩ : ∃ lb, lb = cur.drop (i.toNat + 1) := ⟨_, rfl⟩; have hca := cut_to (P := Try.prog) 22 42 .i64 Try.underlying22 hinf Au cur.length cu i hi0 (by omega) hcu; have hcf := cut_from (P := Try.prog) 22 42 .i64 Try.underlying22 hinf 3 hsz Au cur.length cu (i + 1) (by omega) (by omega)
        have ha1 : la.length = i.toNat := by rw [hla, List.length_take]; omega
        have hb1 : lb.length = cur.length - (i + 1).toNat := by rw [hlb, List.length_drop]; omega
        have hFa : Kd.F k42 W4 (fun k => k ≠ g) Au la.length la := by rw [hla]; exact Kd.F_take hfu (by omega)
        have hFb := Kd.F_cut (c := cu) hfu (m := (i + 1).toNat) (by omega) hcu; rw [show cur.drop (i + 1).toNat = lb from by rw [hlb]; congr 1; omega] at hFb; obtain ⟨A3, hA3⟩ : ∃ A3, A3 = (if cu = (i + 1).toNat then Au else Au.map (·.add ((i + 1).toNat * 3))) := ⟨_, rfl⟩
        replace hFb : Kd.F k42 W4 (fun k => k ≠ g) A3 lb.length lb := by rw [hA3]; exact hFb
        obtain ⟨c3, hc3⟩ : ∃ c3, c3 = cu - (i + 1).toNat := ⟨_, rfl⟩; rw [← ha1] at hca; rw [← hb1, ← hA3, ← hc3] at hcf
        have hwi : IntKind.i64.wrap (i + 1) = i + 1 := by rw [i64_w]; have := HBK.out; rw [wrap64_id (by omega) (by omega)]
        have HFa := Aside0.mk hFa; have HFb := Aside0.mk hFb; have HA1 : Aside0 (la.length ≤ cu ∧ lb.length ≤ c3 ∧ la.length + lb.length ≤ 1048576) := ⟨by omega, by omega, by have := HBK.out; omega⟩; have HG2 : Aside0 (putG p l y = plug q l ((la ++ y) ++ lb)) := ⟨by rw [hla, hlb]; exact HG'.out⟩; have hkb : decide ((k : Int) < (k : Int)) = false := decide_eq_false (by omega)
        have hkl : (k : Int) < (m : Int) := by omega
        clear htk; clear hkp hrd hpi hpq hl0 HF hsb hcur htree HG' hcb hfu hinf hz0 hsz hz2 hla hlb ha1 hb1 hFa hFb hA3 hc3 hi1 hFu HG; obtain ⟨l7, hl7⟩ : ∃ l7, l7 = (la ++ y) ++ lb := ⟨_, rfl⟩; have HFL : Aside0 ([la, y, lb].flatten = l7) := ⟨by rw [hl7]; simp⟩; have HG7 : Aside0 (putG p l y = plug q l l7) := ⟨by rw [hl7]; exact HG2.out⟩; have HLN : Aside0 (lens [la, y, lb] * 48 ≤ 140737488355328) := ⟨by have := HA1.out; have := HBK.out; have := bk_len y; simp only [lens]; omega⟩; have HX2 := Aside0.mk x2; clear hl7
        go_wp2_with fail
        go_region_with (first
          | (go_at_call 29; (with_reducible refine (Copy.calls w (SizeOf.sizeOf y) B b y _ (Nat.le_refl _) HY.out HYY.out (q26 HB4.out) (by have := HBK.out; omega)).mono ?_); rintro e w5 ⟨vy, rfl, hoy, hb5⟩; obtain ⟨Ay, cy, rfl, hcy, hFy⟩ := hoy.foot (by have := HBK.out; omega); have HCY := Aside0.mk hcy; have HFy := Aside0.mk (Kd.F_mono (ok' := fun k => k ≠ g) hFy (fun k hk e => by have h1 := HX2.out; have h2 : W4.heap.size ≤ k := hk.1; omega)); have HFa5 := Aside0.mk (Kd.F_below (Kd.F_drew HFa.out) hb5); have HFb5 := Aside0.mk (Kd.F_below (Kd.F_drew HFb.out) hb5); have HB5 := Aside0.mk (q14 (q26 HB4.out) hb5); have HB45 := Aside0.mk hb5; have z0 := (hb5.cell (World.block_lt_of_cell? _ _ x0)).trans x0; clear hoy hb5 hcy hFy)
          | (go_at_call 35; have hb6 : Below w5.heap.size w5 (w5.alloc (.cells #[.slice Au la.length cu, .slice Ay y.length cy, .slice A3 lb.length c3] 22)) := (Below.refl _ _).alloc (Nat.le_refl _) _; have HG5 : Aside0 (g < w5.heap.size) := ⟨by have h1 := HX2.out; have h2 : W4.heap.size ≤ w5.heap.size := HB45.out.size; omega⟩; refine (concat.calls (some ⟨w5.heap.size, 0, none⟩) 3 [la, y, lb] _ (fun k => k ≠ g) (rows3_F (World.alloc_heap_new w5 _) (by have := HG5.out; omega) HA1.out.1 (Kd.F_below HFa5.out hb6) HCY.out (Kd.F_below HFy.out hb6) HA1.out.2.1 (Kd.F_below HFb5.out hb6)) HLN.out).mono ?_; rintro e w7 ⟨v7, rfl, hN7, hb7⟩; rw [HFL.out] at hN7; have HN7 := Aside0.mk (Kd.N_mono hN7 (fun k hk => show k ≠ g from hk.elim id (fun h e => by have h1 := HG5.out; have h2 := hb6.size; omega))); have HB57 := Aside0.mk (q14 hb6 hb7); have HB7 := Aside0.mk (q14 HB5.out HB57.out); have HB47 := Aside0.mk (q14 (q26 (Below.refl W4.heap.size W4)) (q14 HB45.out HB57.out)); have y0 := (HB57.out.cell (World.block_lt_of_cell? _ _ z0)).trans z0; have y1 : w7.frozen? ⟨g, off, none⟩ = false := (HB47.out.frozen (p := ⟨g, off, none⟩) HX2.out).trans x1; obtain ⟨A7, c7, rfl⟩ := Kd.N_slice HN7.out; clear hb6 hN7 hb7))
        all_goals
          obtain ⟨hn1, hn2, hn3⟩ := Kd.N_reads' (Kd.N_far (p := ⟨g, off, none⟩) HN7.out (fun k hk => hk) (.slice A7 l7.length c7))
          have hset : ∀ cs t, W4.heap[g]? = some (.cells cs t (0, 0)) → (w7.setCell ⟨g, off, none⟩ (.slice A7 l7.length c7)).heap[g]? = some (.cells (cs.setIfInBounds off (.slice A7 l7.length c7)) t (0, 0)) := fun cs t h => blk_set ((HB47.out.block g HX2.out).trans h) _ _
          obtain ⟨Af, cf, hf1, hf2, hf3⟩ := HF0.out.change (w7.setCell ⟨g, off, none⟩ (.slice A7 l7.length c7)) A7 c7 l7 (fun j h1 h2 _ => (Below.heap_setCell w7 ⟨g, off, none⟩ _ j h2).trans (HB47.out.block j h1)) hset hn2 hn3; have hbf := HB7.out.setCell (p := ⟨g, off, none⟩) HGE.out.1 (.slice A7 l7.length c7); obtain ⟨pl, hpl⟩ : ∃ pl, pl = plug q l l7 := ⟨_, rfl⟩; rw [← hpl] at hf1 hf2 hf3; have HPF : Aside0 (putR p l y = (pl, true)) := ⟨by rw [HR.out, HG7.out, hpl]⟩; have HF2 := Aside0.mk hf2; have HF3 := Aside0.mk hf3; have HBF := Aside0.mk hbf; clear hn1 hn2 hn3 hset hf2 hf3 hbf hpl x0 x1 x2 z0 y0 y1
          go_wp2_with fail
          go_ret2
          rw [HPF.out]; exact ⟨Af, cf, rfl, HF2.out, HF3.out, HBF.out⟩
end Go.Proofs.Ytdbjjaodkapikaa.TE
end
section
namespace Go.Proofs.Ytdbjjaodkapikaa.TE
open Go.RowKit Go.Shelf Go.Proofs.YtdbjjaodkapikaaW.PrintWords Go.Proofs.YtdbjjaodkapikaaW.PrintLast Go.Proofs.YtdbjjaodkapikaaW.PrintMore Go.Proofs.Ytdbjjaodkapikaa.Evs
set_option linter.unusedVariables false
set_option linter.unusedSimpArgs false
theorem rows2 {w : World} {A B : Option Addr} {c d : Nat} {l m : List Tm} (hC : Kd.C k42 w A l.length l) (hc : l.length ≤ c) (hD : Kd.C k42 w B m.length m) (hd : m.length ≤ d) :
    Kd.C (Kd.slice 42 k42) (w.alloc (.cells #[.slice A l.length c, .slice B m.length d] 22)) (some ⟨w.heap.size, 0, none⟩) 2 [l, m] := by
  have hb : Below w.heap.size w (w.alloc (.cells #[.slice A l.length c, .slice B m.length d] 22)) := (Below.refl _ _).alloc (Nat.le_refl _) _; refine ⟨rfl, by decide, fun _ => ⟨_, rfl, fun j p hp => ?_⟩⟩
  match j, hp with
  | 0, hp =>
    obtain rfl : l = p := by simpa using hp
    refine ⟨[.slice A l.length c], rfl, ⟨A, c, rfl, hc, Kd.C_below hC hb⟩, fun i u hu => ?_⟩; rw [add_plain]; refine (q9 (World.alloc_heap_new w _) _).trans ?_
    match i, hu with
    | 0, hu => exact hu
  | 1, hp =>
    obtain rfl : m = p := by simpa using hp
    refine ⟨[.slice B m.length d], rfl, ⟨B, d, rfl, hd, Kd.C_below hD hb⟩, fun i u hu => ?_⟩; rw [add_plain]; refine (q9 (World.alloc_heap_new w _) _).trans ?_
    match i, hu with
    | 0, hu => exact hu
theorem Equal_self {l : List Tm} (h : bk42s l ≤ 1099511627776) : ∃ k, chiasmusref01_Equal.f k l l = some true := by
  obtain ⟨v5, _, _, e5, _, i5⟩ := Equals_ev h h; have hv5 : v5 = 0 := i5.2 rfl; subst hv5; obtain ⟨k5, hk5⟩ := e5.get; exact ⟨k5, hk5⟩
theorem rA_bk : ∀ (p : List Int) (l : List Tm) (x : Tm), rA p l = some x → bk42 x ≤ bk42s l
  | [], l, x, h => by rw [rA] at h; cases h
  | i :: r, l, x, h => by
    obtain ⟨h0, h1, h2⟩ := rA_cons h; have hs := bks_split l i.toNat h1; have he := bk42_eq (l[i.toNat]'h1)
    by_cases hr : r = []
    · rw [rA, dif_pos ⟨h0, h1⟩, if_pos hr] at h
      injection h with h
      rw [← h]; omega
    · have ih := rA_bk r _ x (h2 hr); rw [rd_in h1] at ih
      omega
theorem rAR_bk (p : List Int) (l : List Tm) : bk42 (rAR p l).1 ≤ bk42s l + 4 := by
  unfold rAR
  rcases h : rA p l with _ | x
  · rw [bk42_eq]; show 0 + 4 + bk42s [] ≤ _; simp [bk42s]
  · have := rA_bk p l x h; show bk42 x ≤ _
    omega
theorem putR_bk (p : List Int) (l y : List Tm) : bk42s (putR p l y).1 ≤ bk42s l + bk42s y := by
  unfold putR
  rcases h : rA p l with _ | x
  · simp [bk42s]
  · exact putG_bk p l y x h
set_option maxRecDepth 100000 in
set_option maxHeartbeats 4000000 in
theorem TermPlaces.calls (A : Option Addr) (c : Nat) (l : List Tm) (P : Option Addr) (d : Nat) (p : List Int) (B : Option Addr) (b : Nat) (y : List Tm) (w : World) (hC : Kd.C k42 w A l.length l) (hc : l.length ≤ c) (hP : Kd.C (Kd.int .i64) w P p.length p) (hd : p.length ≤ d) (hY : Kd.C k42 w B y.length y) (hy : y.length ≤ b) (ok : ok42s l) (ok2 : ok42s y) (hb : bk42s l + p.length + bk42s y ≤ 1048576) :
    Calls Try.prog 7 #[.slice A l.length c, .slice P p.length d, .slice B y.length b] w fun e w' => e = .returned (.bool true) ∧ Below w.heap.size w w' := by
  have h1s : ∀ z : Tm, bk42s [z] = bk42 z := fun z => by simp [bk42s]
  obtain ⟨k1, hk1⟩ := Equal_self (l := [(rAR p l).1]) (by rw [h1s]; have := rAR_bk p l; omega); obtain ⟨k2, hk2⟩ := Equal_self (l := (putR p l y).1) (by have := putR_bk p l y; omega); obtain ⟨v, hv⟩ : ∃ v, v = (rAR p l).1 := ⟨_, rfl⟩; obtain ⟨vo, hvo⟩ : ∃ v, v = (rAR p l).2 := ⟨_, rfl⟩; obtain ⟨q, hq⟩ : ∃ v, v = (putR p l y).1 := ⟨_, rfl⟩; obtain ⟨qo, hqo⟩ : ∃ v, v = (putR p l y).2 := ⟨_, rfl⟩
  have hcall1 := fun (w1 : World) (hb : Below w.heap.size w w1) => At.calls A c l P d p w1 (Kd.C_below hC hb) hc (Kd.C_below hP hb) hd (by omega)
  have hcall2 := fun (w1 : World) (hb : Below w.heap.size w w1) => rAt.calls p A c l P d w1 (Kd.C_below hC hb) hc (Kd.C_below hP hb) hd (by omega) (by omega)
  have hcall3 := fun (w1 : World) (hb : Below w.heap.size w w1) => Put.calls p A c l P d B b y w1 (Kd.C_below hC hb) hc (Kd.C_below hP hb) hd (Kd.C_below hY hb) hy (by omega) (by omega)
  have hcall4 := fun (w1 : World) (hb : Below w.heap.size w w1) => rPut.calls p A c l P d B b y w1 (Kd.C_below hC hb) hc (Kd.C_below hP hb) hd (Kd.C_below hY hb) hy (by omega) (by omega)
  rw [← hv] at hk1; rw [← hq] at hk2; simp only [atR_eq] at hcall1; simp only [← hv, ← hvo] at hcall1 hcall2; simp only [← hq, ← hqo] at hcall3 hcall4; have hcall0 := Small.calls 1000 (some ⟨w.heap.size, 0, none⟩) 2 2 [l, y] _ (rows2 hC hc hY hy) rfl (Nat.le_refl _); have hbb : Below w.heap.size w (w.alloc (.cells #[.slice A l.length c, .slice B y.length b] 22)) := (Below.refl _ _).alloc (Nat.le_refl _) _; obtain ⟨W0, hW0⟩ : ∃ W0, w.alloc (.cells #[.slice A l.length c, .slice B y.length b] 22) = W0 := ⟨_, rfl⟩; rw [hW0] at hcall0 hbb; obtain ⟨sb, hsb⟩ : ∃ b, b = (cntAll 1000 [l, y]).1 := ⟨_, rfl⟩; rw [← hsb] at hcall0; have HW0 := Aside0.mk hW0; have HBL := Aside0.mk hbb; have HCALL0 := Aside0.mk hcall0; have HC1 := Aside0.mk hcall1; have HC2 := Aside0.mk hcall2; have HC3 := Aside0.mk hcall3; have HC4 := Aside0.mk hcall4; have HK1 := Aside0.mk hk1; have HK2 := Aside0.mk hk2
  have evo : ((vo : Bool) == vo) = true := by simp
  have evq : ((qo : Bool) == qo) = true := by simp
  obtain ⟨m, hm⟩ : ∃ m, m = p.length := ⟨_, rfl⟩; rw [← hm] at HC1 HC2 HC3 HC4 ⊢; clear hC hc hP hd hY hy ok ok2 hb hk1 hk2 hcall0 hcall1 hcall2 hcall3 hcall4 hbb hW0 hsb hv hvo hq hqo h1s hm
  go_enter Try.func7, Try.ntmps7
  go_wp2_with fail
  rw [HW0.out]; refine HCALL0.out.mono ?_; rintro e w1 ⟨rfl, hb1⟩; have HB1 := Aside0.mk (q14 HBL.out hb1); clear hb1
  cases sb with
  | false =>
    go_wp2_with fail
    refine (awake.calls w1).mono ?_; rintro e w2 ⟨rfl, hb2⟩; have HB2 := Aside0.mk (q14 HB1.out hb2); clear hb2
    go_wp2_with fail
    go_ret; exact ⟨rfl, HB2.out⟩
  | true =>
    by_cases hs : m > 200
    · have hs1 : (decide ((m : Int) > 200)) = true := by simp; omega
      have hs2 : ((m : Int) > 200) = True := by simp; omega
      have hs3 : decide (200 < m) = true := by simp; omega
      clear hs
      go_wp2_with fail
      refine (awake.calls w1).mono ?_; rintro e w2 ⟨rfl, hb2⟩; have HB2 := Aside0.mk (q14 HB1.out hb2); clear hb2
      go_wp2_with fail
      go_ret; exact ⟨rfl, HB2.out⟩
    · have hs1 : (decide ((m : Int) > 200)) = false := by simp; omega
      have hs2 : ((m : Int) > 200) = False := by simp; omega
      have hs3 : decide (200 < m) = false := by simp; omega
      clear hs
      go_wp2_with fail
      refine (HC1.out w1 HB1.out).mono ?_; rintro e w2 ⟨A1, c1, rfl, hl1, hR1, hb2⟩; have HL1 := Aside0.mk hl1; have HR1 := Aside0.mk hR1; have HB2 := Aside0.mk (q14 HB1.out hb2); have hna := World.alloc_heap_new w2 (.cells #[.int .i64 v.f0, .string v.f1, .slice A1 v.f2.length c1] 42); have hba : Below w2.heap.size w2 (w2.alloc (.cells #[.int .i64 v.f0, .string v.f1, .slice A1 v.f2.length c1] 42)) := (Below.refl _ _).alloc (Nat.le_refl _) _; obtain ⟨W3, hW3⟩ : ∃ W3, w2.alloc (.cells #[.int .i64 v.f0, .string v.f1, .slice A1 v.f2.length c1] 42) = W3 := ⟨_, rfl⟩; have HW3 := Aside0.mk hW3; rw [hW3] at hna hba; have HN3 := Aside0.mk hna; have HB3 := Aside0.mk (q14 HB2.out hba); have HR3 := Aside0.mk (Kd.C_below HR1.out hba); clear hl1 hR1 hb2 hna hba hW3
      go_wp2_with fail
      rw [HW3.out]; refine (HC2.out W3 HB3.out).mono ?_; rintro e w4 ⟨A2, c2, rfl, hl2, hR2, hb4⟩; have HL2 := Aside0.mk hl2; have HR4 := Aside0.mk (hR2 w4 (fun _ _ => rfl)); have HB4 := Aside0.mk (q14 HB3.out hb4); have HU4 := Aside0.mk hb4; have hna := World.alloc_heap_new w4 (.cells #[.int .i64 v.f0, .string v.f1, .slice A2 v.f2.length c2] 42); have hba : Below w4.heap.size w4 (w4.alloc (.cells #[.int .i64 v.f0, .string v.f1, .slice A2 v.f2.length c2] 42)) := (Below.refl _ _).alloc (Nat.le_refl _) _; obtain ⟨W5, hW5⟩ : ∃ W5, w4.alloc (.cells #[.int .i64 v.f0, .string v.f1, .slice A2 v.f2.length c2] 42) = W5 := ⟨_, rfl⟩; have HW5 := Aside0.mk hW5; rw [hW5] at hna hba; have HN5 := Aside0.mk hna; have HB5 := Aside0.mk (q14 HB4.out hba); have HU5 := Aside0.mk (q14 HU4.out hba); have HR5 := Aside0.mk (Kd.C_below HR4.out hba); clear hl2 hR2 hb4 hna hba hW5
      go_wp2_with fail
      rw [HW5.out]; refine (HC3.out W5 HB5.out).mono ?_; rintro e w6 ⟨A6, c6, rfl, hl6, hR6, hb6⟩; have HL6 := Aside0.mk hl6; have HR6 := Aside0.mk hR6; have HB6 := Aside0.mk (q14 HB5.out hb6); have HU6 := Aside0.mk (q14 HU5.out hb6); have HV6 := Aside0.mk hb6; clear hl6 hR6 hb6
      go_wp2_with fail
      refine (HC4.out w6 HB6.out).mono ?_; rintro e w7 ⟨A7, c7, rfl, hR7, hb7⟩; obtain ⟨_, hl7, hC7⟩ := Kd.N_reads' hR7; have HL7 := Aside0.mk hl7; have HR7 := Aside0.mk hC7; have HR67 := Aside0.mk (Kd.C_below HR6.out hb7); have HB7 := Aside0.mk (q14 HB6.out hb7); have HU7 := Aside0.mk (q14 HU6.out hb7); have HV7 := Aside0.mk (q14 HV6.out hb7); have hm7 := (HU7.out.block _ (Array.getElem?_eq_some_iff.1 HN3.out).1).trans HN3.out; have hn7 := (HV7.out.block _ (Array.getElem?_eq_some_iff.1 HN5.out).1).trans HN5.out; have x0 : w7.cell? ⟨w2.heap.size, 0, none⟩ = some (.int .i64 v.f0) := (q9 hm7 0).trans rfl; have x1 : w7.cell? ⟨w2.heap.size, 1, none⟩ = some (.string v.f1) := (q9 hm7 1).trans rfl; have x2 : w7.cell? ⟨w2.heap.size, 2, none⟩ = some (.slice A1 v.f2.length c1) := (q9 hm7 2).trans rfl; have y0 : w7.cell? ⟨w4.heap.size, 0, none⟩ = some (.int .i64 v.f0) := (q9 hn7 0).trans rfl; have y1 : w7.cell? ⟨w4.heap.size, 1, none⟩ = some (.string v.f1) := (q9 hn7 1).trans rfl; have y2 : w7.cell? ⟨w4.heap.size, 2, none⟩ = some (.slice A2 v.f2.length c2) := (q9 hn7 2).trans rfl; have l2 : w2.heap.size < w7.heap.size := (Array.getElem?_eq_some_iff.1 hm7).1; have l4 : w4.heap.size < w7.heap.size := (Array.getElem?_eq_some_iff.1 hn7).1; clear hR7 hl7 hC7 hb7 hm7 hn7
      go_wp2_with fail
      have hp1 := World.alloc_heap_new w7 (.cells #[.int .i64 v.f0, .string v.f1, .slice A1 v.f2.length c1] 42); have hp2 : Below w7.heap.size w7 (w7.alloc (.cells #[.int .i64 v.f0, .string v.f1, .slice A1 v.f2.length c1] 42)) := (Below.refl _ _).alloc (Nat.le_refl _) _
      have hps : (w7.alloc (.cells #[.int .i64 v.f0, .string v.f1, .slice A1 v.f2.length c1] 42)).heap.size = w7.heap.size + 1 := by simp
      obtain ⟨W8, hW8⟩ : ∃ W8, w7.alloc (.cells #[.int .i64 v.f0, .string v.f1, .slice A1 v.f2.length c1] 42) = W8 := ⟨_, rfl⟩; rw [hW8] at hp1 hp2 hps ⊢; rw [← hps]; have hp3 := World.alloc_heap_new W8 (.cells #[.int .i64 v.f0, .string v.f1, .slice A2 v.f2.length c2] 42); have hp4 : Below W8.heap.size W8 (W8.alloc (.cells #[.int .i64 v.f0, .string v.f1, .slice A2 v.f2.length c2] 42)) := (Below.refl _ _).alloc (Nat.le_refl _) _; obtain ⟨W9, hW9⟩ : ∃ W9, W8.alloc (.cells #[.int .i64 v.f0, .string v.f1, .slice A2 v.f2.length c2] 42) = W9 := ⟨_, rfl⟩; rw [hW9] at hp3 hp4 ⊢; have hp5 := (hp4.block _ (Array.getElem?_eq_some_iff.1 hp1).1).trans hp1; have h79 := q14 hp2 hp4; have HB9 := Aside0.mk (q14 HB7.out h79); have HR9 := Aside0.mk (Kd.C_below HR7.out h79); have HR69 := Aside0.mk (Kd.C_below HR67.out h79); have hu9 := q14 HU7.out h79; have hv9 := q14 HV7.out h79; clear hps hW8 hW9; refine (chiasmusref01_Equal.calls k1 _ 1 [v] _ 1 [v] true W9 (one_C (x := v) hp5 (Kd.C_below HR3.out hu9) HL1.out) (Nat.le_refl _) (one_C (x := v) hp3 (Kd.C_below HR5.out hv9) HL2.out) (Nat.le_refl _) HK1.out).mono ?_; rintro e w10 ⟨rfl, hb10⟩; have HB10 := Aside0.mk (q14 HB9.out hb10); have HR10 := Aside0.mk (Kd.C_below HR9.out hb10); have HR610 := Aside0.mk (Kd.C_below HR69.out hb10); clear hb10 hp1 hp2 hp3 hp4 hp5 h79 hu9 hv9 x0 x1 x2 y0 y1 y2 l2 l4
      go_wp2_with fail
      refine (chiasmusref01_Equal.calls k2 A6 c6 q A7 c7 q true w10 HR610.out HL6.out HR10.out HL7.out HK2.out).mono ?_; rintro e w11 ⟨rfl, hb11⟩; have HB11 := Aside0.mk (q14 HB10.out hb11); clear hb11
      go_wp2_with fail
      refine (awake.calls w11).mono ?_; rintro e w12 ⟨rfl, hb12⟩; have HB12 := Aside0.mk (q14 HB11.out hb12); clear hb12
      go_wp2_with fail
      go_ret; exact ⟨rfl, HB12.out⟩
end Go.Proofs.Ytdbjjaodkapikaa.TE
end
section
namespace Go.Proofs.Ytdbjjaodkapikaa.TE
open Go.RowKit Go.Shelf Go.Proofs.YtdbjjaodkapikaaW.PrintWords Go.Proofs.YtdbjjaodkapikaaW.PrintLast Go.Proofs.YtdbjjaodkapikaaW.PrintMore Go.Proofs.Ytdbjjaodkapikaa.Evs
set_option linter.unusedVariables false
set_option linter.unusedSimpArgs false
set_option maxRecDepth 100000 in
set_option maxHeartbeats 4000000 in
theorem TermOrdered.calls (A : Option Addr) (c : Nat) (a : List Tm) (B : Option Addr) (d : Nat) (b : List Tm) (D : Option Addr) (e : Nat) (z : List Tm) (cut : Int) (P : Option Addr) (f : Nat) (p : List Int) (w : World) (hA : Kd.C k42 w A a.length a) (hc : a.length ≤ c) (hB : Kd.C k42 w B b.length b) (hd : b.length ≤ d) (hD : Kd.C k42 w D z.length z) (he : z.length ≤ e) (hP : Kd.C (Kd.int .i64) w P p.length p) (hf : p.length ≤ f)
    (ok : ok42s a) (ok2 : ok42s b) (ok3 : ok42s z) (hcut : (Lit.int .u8 cut).wf = true) (hb : bk42s a + bk42s b + bk42s z + 0 + p.length ≤ 1048576) :
    Calls Try.prog 8 #[.slice A a.length c, .slice B b.length d, .slice D z.length e, .int .u8 cut, .slice P p.length f] w fun e w' => e = .returned (.bool true) ∧ Below w.heap.size w w' := by
  have hcut0 : 0 ≤ cut ∧ cut ≤ 255 := by simp [Lit.wf, IntKind.min, IntKind.max, IntKind.bits, IntKind.signed] at hcut; omega
  have hb0 : Below w.heap.size w (w.alloc (.cells #[.slice A a.length c, .slice B b.length d, .slice D z.length e] 22)) := (Below.refl _ _).alloc (Nat.le_refl _) _; have hrows := Kd.F_now (rows3_F (ok := fun _ => True) (World.alloc_heap_new w (.cells #[.slice A a.length c, .slice B b.length d, .slice D z.length e] 22)) trivial hc (Kd.F_mono (Kd.C_F heap42 (Kd.C_below hA hb0)) (fun _ _ => trivial)) hd (Kd.F_mono (Kd.C_F heap42 (Kd.C_below hB hb0)) (fun _ _ => trivial)) he (Kd.F_mono (Kd.C_F heap42 (Kd.C_below hD hb0)) (fun _ _ => trivial))); have hcall0 := Small.calls 1000 (some ⟨w.heap.size, 0, none⟩) 3 3 [a, b, z] _ hrows rfl (Nat.le_refl _); have hsm := cnt_all [a, b, z] 1000 (by omega) (by omega) (by intro l hl; simp at hl; rcases hl with rfl | rfl | rfl <;> omega); obtain ⟨W0, hW0⟩ : ∃ W0, w.alloc (.cells #[.slice A a.length c, .slice B b.length d, .slice D z.length e] 22) = W0 := ⟨_, rfl⟩; rw [hW0] at hcall0 hb0; obtain ⟨sb, hsb⟩ : ∃ s, s = (cntAll 1000 [a, b, z]).1 := ⟨_, rfl⟩; rw [← hsb] at hcall0 hsm; have HBD : Aside0 (sb = true → bk42s a + bk42s b + bk42s z ≤ 200000) := ⟨fun h => by have := hsm h; simp at this; omega⟩
  have hba : bk42s a ≤ 1099511627776 := by omega
  have hbb : bk42s b ≤ 1099511627776 := by omega
  have hbz : bk42s z ≤ 1099511627776 := by omega
  obtain ⟨k1, hk1⟩ := (tcmp_ev _ a b (Nat.le_refl _) hba hbb).get; obtain ⟨k2, hk2⟩ := (tcmp_ev _ b z (Nat.le_refl _) hbb hbz).get; obtain ⟨k3, hk3⟩ := (tcmp_ev _ a z (Nat.le_refl _) hba hbz).get; obtain ⟨k4, hk4⟩ := (tcmp_ev _ b a (Nat.le_refl _) hbb hba).get; obtain ⟨k5, hk5⟩ := (tequal_ev hba hbb).get; obtain ⟨k6, hk6⟩ := (tequal_ev hba hba).get; obtain ⟨k7, hk7⟩ := (tequal_ev hbb hbb).get; rw [show (cmpL a a == 0) = true by simp [(cmp_zero a a).2 rfl]] at hk6; rw [show (cmpL b b == 0) = true by simp [(cmp_zero b b).2 rfl]] at hk7; obtain ⟨k8, hk8⟩ := (size_ev hba).get; obtain ⟨k9, hk9⟩ := (size_ev hbb).get; obtain ⟨k10, hk10⟩ := (size_ev (l := a ++ b) (by rw [bks_app]; omega)).get; rw [dpL_app, flat_append, List.length_append] at hk10; have hfa := flat_len a; have hfb := flat_len b; obtain ⟨x, hx⟩ : ∃ x, x = cmpL a b := ⟨_, rfl⟩; obtain ⟨y, hy⟩ : ∃ x, x = cmpL b z := ⟨_, rfl⟩; obtain ⟨u, hu⟩ : ∃ x, x = cmpL a z := ⟨_, rfl⟩; obtain ⟨xb, hxb⟩ : ∃ x, x = cmpL b a := ⟨_, rfl⟩; obtain ⟨eb, heb⟩ : ∃ q, q = (cmpL a b == 0) := ⟨_, rfl⟩
  have h1 : xb = - x := by rw [hx, hxb]; exact cmp_anti a b
  have h2 : x ≤ 0 → y ≤ 0 → u ≤ 0 := by rw [hx, hy, hu]; exact cmp_trans a b z
  have h3 : 0 ≤ x → 0 ≤ y → 0 ≤ u := by
    rw [hx, hy, hu]; intro g1 g2; have := cmp_trans z b a (by rw [cmp_anti]; omega) (by rw [cmp_anti]; omega); rw [cmp_anti] at this; omega
  have h4 : eb = (x == 0) := by rw [heb, hx]
  have h5 : -1 ≤ x ∧ x ≤ 1 := by rw [hx]; exact cmp_range a b
  rw [← hx] at hk1; rw [← hy] at hk2; rw [← hu] at hk3; rw [← hxb] at hk4; rw [← heb] at hk5; obtain ⟨n1, hn1⟩ : ∃ n : Nat, n = (flat a).length := ⟨_, rfl⟩; obtain ⟨n2, hn2⟩ : ∃ n : Nat, n = (flat b).length := ⟨_, rfl⟩; obtain ⟨d1, hd1⟩ : ∃ n : Int, n = dpL 0 a := ⟨_, rfl⟩; obtain ⟨d2, hd2⟩ : ∃ n : Int, n = dpL 0 b := ⟨_, rfl⟩; rw [← hn1] at hk8; rw [← hn2] at hk9; rw [← hn1, ← hn2, ← hd1, ← hd2] at hk10; rw [← hd1] at hk8; rw [← hd2] at hk9; have HN : Aside0 (n1 ≤ 1048576 ∧ n2 ≤ 1048576) := ⟨by omega, by omega⟩; have hlen := bk_len a; obtain ⟨kk, hkk⟩ : ∃ k : Nat, (k : Int) = cut % ((a.length : Int) + 1) := ⟨(cut % ((a.length : Int) + 1)).toNat, by have := Int.emod_nonneg cut (b := (a.length : Int) + 1) (by omega); omega⟩
  have hkl : kk ≤ a.length := by have := Int.emod_lt_of_pos cut (b := (a.length : Int) + 1) (by omega); omega
  obtain ⟨i0, hinf, hz0, hsz, hz2⟩ := info_parts info_term'; have hct := cut_to (P := Try.prog) 22 42 .i64 Try.underlying22 hinf A a.length c (kk : Int) (by omega) (by omega) hc; rw [Int.toNat_natCast] at hct; obtain ⟨la, hla⟩ : ∃ la, la = a.take kk := ⟨_, rfl⟩
  have hlal : la.length = kk := by rw [hla, List.length_take]; omega
  have hCla : Kd.C k42 w A la.length la := by rw [hla]; exact Kd.C_take hA hkl
  have hbla : bk42s la ≤ 1099511627776 := by have h := bks_app (a.take kk) (a.drop kk); rw [List.take_append_drop] at h; rw [hla]; omega
  obtain ⟨k11, hk11⟩ := (tcmp_ev _ la a (Nat.le_refl _) hbla hba).get; obtain ⟨xk, hxk⟩ : ∃ x, x = cmpL la a := ⟨_, rfl⟩; rw [← hxk] at hk11
  have hxk0 : xk ≤ 0 := by rw [hxk, hla]; exact cmp_begin kk a
  subst hlal
  have hmod : Int.tmod cut ((a.length : Int) + 1) = (la.length : Int) := by rw [Int.tmod_eq_emod_of_nonneg hcut0.1, hkk]
  have hAt := fun (w1 : World) (hb : Below w.heap.size w w1) => At.calls A c a P f p w1 (Kd.C_below hA hb) hc (Kd.C_below hP hb) hf (by omega)
  simp only [atR_eq] at hAt; obtain ⟨m, hm⟩ : ∃ m, m = p.length := ⟨_, rfl⟩
  have hpl : m ≤ 1048576 := by omega
  rw [← hm] at hAt hf ⊢; have HA := Aside0.mk hA; have HAC := Aside0.mk hc; have HB := Aside0.mk hB; have HBC := Aside0.mk hd; have HD := Aside0.mk hD; have HDC := Aside0.mk he; have HP := Aside0.mk hP; have HPF := Aside0.mk hf; have HM := Aside0.mk hm; have HPL := Aside0.mk hpl; have HW0 := Aside0.mk hW0; have HB0 := Aside0.mk hb0; have HCALL0 := Aside0.mk hcall0; have HK1 := Aside0.mk hk1; have HK2 := Aside0.mk hk2; have HK3 := Aside0.mk hk3; have HK4 := Aside0.mk hk4; have HK5 := Aside0.mk hk5; have HK6 := Aside0.mk hk6; have HK7 := Aside0.mk hk7; have HK8 := Aside0.mk hk8; have HK9 := Aside0.mk hk9; have HK10 := Aside0.mk hk10; have HK11 := Aside0.mk hk11; have HCLA := Aside0.mk hCla; have HAT := Aside0.mk hAt; have HX : Aside0 (xb = -x ∧ (x ≤ 0 → y ≤ 0 → u ≤ 0) ∧ (0 ≤ x → 0 ≤ y → 0 ≤ u) ∧ eb = (x == 0) ∧ -1 ≤ x ∧ x ≤ 1) := ⟨h1, h2, h3, h4, h5⟩; have HXK := Aside0.mk hxk0; have HLAL : Aside0 (la.length ≤ a.length) := ⟨hkl⟩; have HLEN : Aside0 (a.length ≤ 1048576 ∧ lens [a, b] * 48 ≤ 140737488355328 ∧ [a, b].flatten = a ++ b) := ⟨by omega, by have := bk_len b; simp only [lens]; omega, by simp⟩; have HCUT := Aside0.mk hcut0; have HMOD := Aside0.mk hmod; have HCT := Aside0.mk hct; clear hA hc hB hd hD he hP hf ok ok2 ok3 hcut hb hcut0 hb0 hrows hcall0 hsm hW0 hsb hba hbb hbz hk1 hk2 hk3 hk4 hk5 hk6 hk7 hk8 hk9 hk10 hk11 hfa hfb hx hy hu hxb heb h1 h2 h3 h4 h5 hn1 hn2 hd1 hd2 hlen hkk hkl hinf hz0 hsz hz2 hct hla hCla hbla hxk hxk0 hmod hAt hm hpl
  go_enter Try.func8, Try.ntmps8
  go_wp2_with fail
  rw [HW0.out]; refine HCALL0.out.mono ?_; rintro e1 w1 ⟨rfl, hb1⟩; have HB1 := Aside0.mk (q14 HB0.out hb1); clear hb1
  cases sb with
  | false =>
    go_wp2_with fail
    refine (awake.calls w1).mono ?_; rintro e w2 ⟨rfl, hb2⟩; have HB2 := Aside0.mk (q14 HB1.out hb2); clear hb2
    go_wp2_with fail
    go_ret; exact ⟨rfl, HB2.out⟩
  | true =>
    by_cases hs : m > 200
    · have hs1 : (decide ((m : Int) > 200)) = true := by simp; omega
      have hs2 : ((m : Int) > 200) = True := by simp; omega
      have hs3 : decide (200 < m) = true := by simp; omega
      clear hs
      go_wp2_with fail
      refine (awake.calls w1).mono ?_; rintro e w2 ⟨rfl, hb2⟩; have HB2 := Aside0.mk (q14 HB1.out hb2); clear hb2
      go_wp2_with fail
      go_ret; exact ⟨rfl, HB2.out⟩
    · have hs1 : (decide ((m : Int) > 200)) = false := by simp; omega
      have hs2 : ((m : Int) > 200) = False := by simp; omega
      have hs3 : decide (200 < m) = false := by simp; omega
      have HSB := Aside0.mk (HBD.out rfl); clear hs
      go_wp2_with fail
      refine (term_Compare.calls k1 A c a B d b x w1 (Kd.C_below HA.out HB1.out) HAC.out (Kd.C_below HB.out HB1.out) HBC.out HK1.out).mono ?_; rintro e2 w2 ⟨rfl, hb2⟩; have HB2 := Aside0.mk (q14 HB1.out hb2); clear hb2
      go_wp2_with fail
      refine (term_Compare.calls k2 B d b D e z y w2 (Kd.C_below HB.out HB2.out) HBC.out (Kd.C_below HD.out HB2.out) HDC.out HK2.out).mono ?_; rintro e3 w3 ⟨rfl, hb3⟩; have HB3 := Aside0.mk (q14 HB2.out hb3); clear hb3
      go_wp2_with fail
      refine (term_Compare.calls k3 A c a D e z u w3 (Kd.C_below HA.out HB3.out) HAC.out (Kd.C_below HD.out HB3.out) HDC.out HK3.out).mono ?_; rintro e4 w4 ⟨rfl, hb4⟩; have HB4 := Aside0.mk (q14 HB3.out hb4); clear hb4
      go_upto_region 4 with fail
      go_cut [87] (fun v wx => v = .bool false ∧ Aside0 (Below w.heap.size w wx))
      case first =>
        obtain ⟨hx1, hx2, hx3, hx4, hx5, hx6⟩ := HX.out
        have hneg : wrap64 (-xb) = x := by rw [hx1]; rw [wrap64_id (by omega) (by omega)]; omega
        have hneg2 : IntKind.i64.wrap (-xb) = x := by rw [i64_w]; exact hneg
        have hq : ((x : Int) == 0) = eb := hx4.symm
        have en1 : ((x : Int) != x) = false := by simp
        have en2 : ((eb : Bool) != eb) = false := by simp
        have HU1 := Aside0.mk hx2; have HU2 := Aside0.mk hx3; clear hx1 hx2 hx3 hx4 hx5 hx6
        by_cases c1 : x ≤ 0 <;> by_cases c2 : 0 ≤ x <;> by_cases c3 : y ≤ 0 <;> by_cases c4 : 0 ≤ y
        all_goals first
          | (exfalso; clear hneg hneg2; omega)
          | (first | have l1 : decide (x ≤ 0) = true := decide_eq_true c1 | have l1 : decide (x ≤ 0) = false := decide_eq_false c1
             first | have l2 : decide (x ≥ 0) = true := decide_eq_true c2 | have l2 : decide (x ≥ 0) = false := decide_eq_false c2
             first | have l3 : decide (y ≤ 0) = true := decide_eq_true c3 | have l3 : decide (y ≤ 0) = false := decide_eq_false c3
             first | have l4 : decide (y ≥ 0) = true := decide_eq_true c4 | have l4 : decide (y ≥ 0) = false := decide_eq_false c4
             (try have l5 : decide (u > 0) = false := decide_eq_false (by have := HU1.out c1 c3; omega))
             (try have l6 : decide (u < 0) = false := decide_eq_false (by have := HU2.out c2 c4; omega))
             clear c1 c2 c3 c4
             go_wp2_with fail
             refine (term_Compare.calls k4 B d b A c a xb w4 (Kd.C_below HB.out HB4.out) HBC.out (Kd.C_below HA.out HB4.out) HAC.out HK4.out).mono ?_; rintro e5 w5 ⟨rfl, hb5⟩; have HB5 := Aside0.mk (q14 HB4.out hb5); clear hb5
             go_wp2_with fail
             refine (term_Equal.calls k5 A c a B d b eb w5 (Kd.C_below HA.out HB5.out) HAC.out (Kd.C_below HB.out HB5.out) HBC.out HK5.out).mono ?_; rintro e6 w6 ⟨rfl, hb6⟩; have HB6 := Aside0.mk (q14 HB5.out hb6); clear hb6
             go_wp2_with fail
             go_meet
             exact ⟨rfl, HB6⟩)
      case rest =>
        obtain ⟨rfl, HB6⟩ := hcut; clear HK1 HK2 HK3 HK4 HX
        have hwl : IntKind.i64.wrap ((a.length : Int) + 1) = (a.length : Int) + 1 := by have := HLEN.out.1; rw [i64_w]; rw [wrap64_id (by omega) (by omega)]
        have hmod := HMOD.out; have hct := HCT.out; have hcut := HCUT.out; have hxk : decide (xk > 0) = false := decide_eq_false (by have := HXK.out; omega); have hl0 : (0 : Int) ≤ (a.length : Int) := Int.natCast_nonneg _
        have hln : ((a.length : Int) + 1 == 0) = false := by simp; omega
        have hkl2 : (la.length : Int) ≤ (a.length : Int) := by have := HLAL.out; omega
        go_wp2_with fail
        refine (term_Compare.calls k11 A c la A c a xk wc (Kd.C_below HCLA.out HB6.out) (by have := HLAL.out; have := HAC.out; omega) (Kd.C_below HA.out HB6.out) HAC.out HK11.out).mono ?_; rintro e7 w7 ⟨rfl, hb7⟩; have HB7 := Aside0.mk (q14 HB6.out hb7); clear hb7 hmod hct hcut hwl hl0 hln hkl2
        go_wp2_with fail
        refine (term_Size.calls k8 A c a n1 d1 w7 (Kd.C_below HA.out HB7.out) HAC.out HK8.out).mono ?_; rintro e8 w8 ⟨rfl, hb8⟩; have HB8 := Aside0.mk (q14 HB7.out hb8); clear hb8 hxk
        go_wp2_with fail
        refine (term_Size.calls k9 B d b n2 d2 w8 (Kd.C_below HB.out HB8.out) HBC.out HK9.out).mono ?_; rintro e9 w9 ⟨rfl, hb9⟩; have HB9 := Aside0.mk (q14 HB8.out hb9); clear hb9; have hb10 : Below w9.heap.size w9 (w9.alloc (.cells #[.slice A a.length c, .slice B b.length d] 22)) := (Below.refl _ _).alloc (Nat.le_refl _) _; have hrw := Kd.C_F (Kd.heap_slice 42 heap42) (rows2 (Kd.C_below HA.out HB9.out) HAC.out (Kd.C_below HB.out HB9.out) HBC.out); obtain ⟨W10, hW10⟩ : ∃ W10, w9.alloc (.cells #[.slice A a.length c, .slice B b.length d] 22) = W10 := ⟨_, rfl⟩; rw [hW10] at hb10 hrw; have HW10 := Aside0.mk hW10; have HB10 := Aside0.mk (q14 HB9.out hb10); have HRW := Aside0.mk hrw; clear hb10 hrw hW10
        go_wp2_with fail
        rw [HW10.out]; refine (concat.calls (some ⟨w9.heap.size, 0, none⟩) 2 [a, b] W10 _ HRW.out HLEN.out.2.1).mono ?_; rintro e11 w11 ⟨v11, rfl, hN11, hb11⟩; rw [HLEN.out.2.2] at hN11; obtain ⟨lab, hlab⟩ : ∃ l, l = a ++ b := ⟨_, rfl⟩; rw [← hlab] at hN11; have HK10' : Aside0 (term_Size.f k10 lab = some (((n1 + n2 : Nat) : Int), mx d1 d2)) := ⟨by rw [hlab]; exact HK10.out⟩; obtain ⟨A11, c11, rfl⟩ := Kd.N_slice hN11; obtain ⟨_, hc11, hC11⟩ := Kd.N_reads' hN11; have HB11 := Aside0.mk (q14 HB10.out hb11); have HC11 := Aside0.mk hC11; have HCC11 := Aside0.mk hc11; clear hN11 hb11 hlab hc11 hC11
        go_wp2_with fail
        refine (term_Size.calls k10 A11 c11 lab ((n1 + n2 : Nat) : Int) (mx d1 d2) w11 HC11.out HCC11.out HK10'.out).mono ?_; rintro e12 w12 ⟨rfl, hb12⟩; have HB12 := Aside0.mk (q14 HB11.out hb12); clear hb12
        have hsum : IntKind.i64.wrap ((n1 : Int) + (n2 : Int)) = ((n1 + n2 : Nat) : Int) := by have := HN.out; rw [i64_w]; rw [wrap64_id (by omega) (by omega)]; omega
        have hsum2 : (((n1 + n2 : Nat) : Int) != ((n1 + n2 : Nat) : Int)) = false := by simp
        obtain ⟨dm, hdm⟩ : ∃ q, q = mx d1 d2 := ⟨_, rfl⟩; rw [← hdm]
        have hmx : (dm != max d1 d2) = false := by
          have : max d1 d2 = dm := by rw [hdm]; unfold mx; split <;> omega
          rw [this]; simp
        have HDM := Aside0.mk hdm; clear hdm
        go_wp2_with fail
        clear hsum hsum2 hmx HDM HN; refine (HAT.out w12 HB12.out).mono ?_; rintro e13 w13 ⟨Ax, ct, rfl, hlt, hCt, hb13⟩; have HB13 := Aside0.mk (q14 HB12.out hb13)
        rcases hra : rA p a with _ | t
        · have hr : rAR p a = (z42, false) := by unfold rAR; rw [hra]
          rw [hr]; clear hra hr hlt hCt hb13; have HB14 := Aside0.mk (q14 HB13.out ((Below.refl _ _).alloc (Nat.le_refl _) (.cells #[.int .i64 z42.f0, .string z42.f1, .slice Ax z42.f2.length ct] 42))); obtain ⟨W14, hW14⟩ : ∃ W14, w13.alloc (.cells #[.int .i64 z42.f0, .string z42.f1, .slice Ax z42.f2.length ct] 42) = W14 := ⟨_, rfl⟩; rw [hW14] at HB14; have HW14 := Aside0.mk hW14; clear hW14
          go_upto_region 15 with fail
          rw [HW14.out]
          go_wp2_with fail
          refine (awake.calls W14).mono ?_; rintro e w2 ⟨rfl, hb2⟩; have HBE := Aside0.mk (q14 HB14.out hb2); clear hb2
          go_wp2_with fail
          go_ret; exact ⟨rfl, HBE.out⟩
        · have hr : rAR p a = (t, true) := by unfold rAR; rw [hra]
          rw [hr] at hlt hCt ⊢
          have hput1 := fun (W : World) (hb : Below w.heap.size w W) (T : Option Addr) (tc : Nat) (h : Kd.C k42 W T 1 [t]) (ht : 1 ≤ tc) => Put.calls p A c a P f T tc [t] W (Kd.C_below HA.out hb) HAC.out (Kd.C_below HP.out hb) (by rw [← HM.out]; exact HPF.out) h ht (by rw [← HM.out]; exact HPL.out) (by have h1 := rA_bk p a t hra; have h2 : bk42s [t] = bk42 t := (by simp [bk42s]); have := HSB.out; omega)
          have hput2 := fun (W : World) (hb : Below w.heap.size w W) (T : Option Addr) (tc : Nat) (h : Kd.C k42 W T 1 [(⟨4, ⟨#[]⟩, b⟩ : Tm)]) (ht : 1 ≤ tc) => Put.calls p A c a P f T tc [(⟨4, ⟨#[]⟩, b⟩ : Tm)] W (Kd.C_below HA.out hb) HAC.out (Kd.C_below HP.out hb) (by rw [← HM.out]; exact HPF.out) h ht (by rw [← HM.out]; exact HPL.out) (by have h2 : bk42s [(⟨4, ⟨#[]⟩, b⟩ : Tm)] = bk42 (⟨4, ⟨#[]⟩, b⟩ : Tm) := (by simp [bk42s]); rw [h2, bk42_eq]; show bk42s a + (0 + 4 + bk42s b) ≤ _; have := HSB.out; omega)
          have hp1 : putR p a [t] = (a, true) := by unfold putR; rw [hra, putG_self p a t hra]
          obtain ⟨l8, hl8⟩ : ∃ l8, l8 = putG p a [(⟨4, ⟨#[]⟩, b⟩ : Tm)] := ⟨_, rfl⟩
          have hp2 : putR p a [(⟨4, ⟨#[]⟩, b⟩ : Tm)] = (l8, true) := by unfold putR; rw [hra, hl8]
          have hra8 : rAR p l8 = ((⟨4, ⟨#[]⟩, b⟩ : Tm), true) := by unfold rAR; rw [hl8, rA_putG p a t _ hra]
          have hat8 := fun (W : World) (hb : Below w.heap.size w W) (T : Option Addr) (tc : Nat) (h : Kd.C k42 W T l8.length l8) (ht : l8.length ≤ tc) => At.calls T tc l8 P f p W h ht (Kd.C_below HP.out hb) (by rw [← HM.out]; exact HPF.out) (by rw [← HM.out]; exact HPL.out)
          simp only [hp1, ← HM.out] at hput1; simp only [hp2, ← HM.out] at hput2; simp only [atR_eq, hra8, ← HM.out] at hat8; have HPUT1 := Aside0.mk hput1; have HPUT2 := Aside0.mk hput2; have HAT8 := Aside0.mk hat8; have HLT := Aside0.mk hlt; have HCT := Aside0.mk hCt; clear hra hr hput1 hput2 hp1 hp2 hra8 hat8 hlt hCt hb13 hl8; have hb14 : Below w13.heap.size w13 (w13.alloc (.cells #[.int .i64 t.f0, .string t.f1, .slice Ax t.f2.length ct] 42)) := (Below.refl _ _).alloc (Nat.le_refl _) _; have hn14 := World.alloc_heap_new w13 (.cells #[.int .i64 t.f0, .string t.f1, .slice Ax t.f2.length ct] 42); obtain ⟨W14, hW14⟩ : ∃ W14, w13.alloc (.cells #[.int .i64 t.f0, .string t.f1, .slice Ax t.f2.length ct] 42) = W14 := ⟨_, rfl⟩; rw [hW14] at hb14 hn14; have HW14 := Aside0.mk hW14; have HB14 := Aside0.mk (q14 HB13.out hb14); have HC14 := Aside0.mk (Kd.C_below HCT.out hb14); have x0 : W14.cell? ⟨w13.heap.size, 0, none⟩ = some (.int .i64 t.f0) := (q9 hn14 0).trans rfl; have x1 : W14.cell? ⟨w13.heap.size, 1, none⟩ = some (.string t.f1) := (q9 hn14 1).trans rfl; have x2 : W14.cell? ⟨w13.heap.size, 2, none⟩ = some (.slice Ax t.f2.length ct) := (q9 hn14 2).trans rfl; have hb15 : Below W14.heap.size W14 (W14.alloc (.cells #[.int .i64 t.f0, .string t.f1, .slice Ax t.f2.length ct] 42)) := (Below.refl _ _).alloc (Nat.le_refl _) _; have hn15 := World.alloc_heap_new W14 (.cells #[.int .i64 t.f0, .string t.f1, .slice Ax t.f2.length ct] 42); obtain ⟨W15, hW15⟩ : ∃ W15, W14.alloc (.cells #[.int .i64 t.f0, .string t.f1, .slice Ax t.f2.length ct] 42) = W15 := ⟨_, rfl⟩; rw [hW15] at hb15 hn15; have HW15 := Aside0.mk hW15; have HB15 := Aside0.mk (q14 HB14.out hb15); have HN15 := Aside0.mk hn15; have HC15 := Aside0.mk (Kd.C_below HC14.out hb15); clear hb14 hn14 hW14 hb15 hn15 hW15
          go_upto_region 16 with fail
          rw [HW14.out]
          go_wp2_with fail
          rw [HW15.out]; refine (HPUT1.out W15 HB15.out (some ⟨W14.heap.size, 0, none⟩) 1 (one_C (x := t) HN15.out HC15.out HLT.out) (Nat.le_refl _)).mono ?_; rintro e16 w16 ⟨A16, c16, rfl, hl16, hC16, hb16⟩; have HL16 := Aside0.mk hl16; have HC16 := Aside0.mk hC16; have HB16 := Aside0.mk (q14 HB15.out hb16); have hb17 : Below w16.heap.size w16 (w16.alloc (.cells #[.int .i64 4, .string ⟨#[]⟩, .slice B b.length d] 42)) := (Below.refl _ _).alloc (Nat.le_refl _) _; have hn17 := World.alloc_heap_new w16 (.cells #[.int .i64 4, .string ⟨#[]⟩, .slice B b.length d] 42); obtain ⟨W17, hW17⟩ : ∃ W17, w16.alloc (.cells #[.int .i64 4, .string ⟨#[]⟩, .slice B b.length d] 42) = W17 := ⟨_, rfl⟩; rw [hW17] at hb17 hn17; have HW17 := Aside0.mk hW17; have HB17 := Aside0.mk (q14 HB16.out hb17); have HN17 := Aside0.mk hn17; have HC17 := Aside0.mk (Kd.C_below HC16.out hb17); clear hl16 hC16 hb16 hb17 hn17 hW17 x0 x1 x2
          go_wp2_with fail
          rw [HW17.out]; refine (HPUT2.out W17 HB17.out (some ⟨w16.heap.size, 0, none⟩) 1 (one_C (x := ⟨4, ⟨#[]⟩, b⟩) HN17.out (Kd.C_below HB.out HB17.out) HBC.out) (Nat.le_refl _)).mono ?_; rintro e18 w18 ⟨A18, c18, rfl, hl18, hC18, hb18⟩; have HL18 := Aside0.mk hl18; have HC18 := Aside0.mk hC18; have HB18 := Aside0.mk (q14 HB17.out hb18); have HS18 := Aside0.mk (Kd.C_below HC17.out hb18); clear hl18 hC18 hb18
          go_wp2_with fail
          refine (HAT8.out w18 HB18.out A18 c18 HC18.out HL18.out).mono ?_; rintro e19 w19 ⟨A19, c19, rfl, hl19, hC19, hb19⟩; have HL19 := Aside0.mk hl19; have HC19 := Aside0.mk hC19; have HB19 := Aside0.mk (q14 HB18.out hb19); have HS19 := Aside0.mk (Kd.C_below HS18.out hb19); have hb20 : Below w19.heap.size w19 (w19.alloc (.cells #[.int .i64 4, .string ⟨#[]⟩, .slice A19 b.length c19] 42)) := (Below.refl _ _).alloc (Nat.le_refl _) _; have hn20 := World.alloc_heap_new w19 (.cells #[.int .i64 4, .string ⟨#[]⟩, .slice A19 b.length c19] 42); obtain ⟨W20, hW20⟩ : ∃ W20, w19.alloc (.cells #[.int .i64 4, .string ⟨#[]⟩, .slice A19 b.length c19] 42) = W20 := ⟨_, rfl⟩; rw [hW20] at hb20 hn20; have HW20 := Aside0.mk hW20; have HN20 := Aside0.mk hn20; have HB20 := Aside0.mk (q14 HB19.out hb20); have HS20 := Aside0.mk (Kd.C_below HS19.out hb20); have HC20 := Aside0.mk (Kd.C_below HC19.out hb20); clear hl19 hC19 hb19 hb20 hn20 hW20
          go_upto_region 19 with fail
          rw [HW20.out]
          go_wp2_with fail
          refine (term_Equal.calls k6 A16 c16 a A c a true W20 HS20.out HL16.out (Kd.C_below HA.out HB20.out) HAC.out HK6.out).mono ?_; rintro e21 w21 ⟨rfl, hb21⟩; have HB21 := Aside0.mk (q14 HB20.out hb21); have HC21 := Aside0.mk (Kd.C_below HC20.out hb21); have hn21 := (hb21.block _ (Array.getElem?_eq_some_iff.1 HN20.out).1).trans HN20.out; have x0 : w21.cell? ⟨w19.heap.size, 0, none⟩ = some (.int .i64 4) := (q9 hn21 0).trans rfl; have x2 : w21.cell? ⟨w19.heap.size, 2, none⟩ = some (.slice A19 b.length c19) := (q9 hn21 2).trans rfl; clear hb21 hn21
          go_wp2_with fail
          refine (term_Equal.calls k7 A19 c19 b B d b true w21 HC21.out HL19.out (Kd.C_below HB.out HB21.out) HBC.out HK7.out).mono ?_; rintro e22 w22 ⟨rfl, hb22⟩; have HB22 := Aside0.mk (q14 HB21.out hb22); clear hb22 x0 x2
          go_wp2_with fail
          refine (awake.calls w22).mono ?_; rintro e23 w23 ⟨rfl, hb23⟩; have HB23 := Aside0.mk (q14 HB22.out hb23); clear hb23
          go_wp2_with fail
          go_ret; exact ⟨rfl, HB23.out⟩
end Go.Proofs.Ytdbjjaodkapikaa.TE
end
