/- Plain laws of TermOrdered, second part. -/
import Derived.Test.YtdbjjaodkapikaaKTEPl3
import Derived.Test.YtdbjjaodkapikaaKTEx16
import Derived.Test.YtdbjjaodkapikaaKTEParts2
import Derived.Test.YtdbjjaodkapikaaKTEBa
section
namespace Go.Proofs.Ytdbjjaodkapikaa.TE
open Go.RowKit Go.Shelf Go.Proofs.YtdbjjaodkapikaaW.PrintWords Go.Proofs.YtdbjjaodkapikaaW.PrintLast Go.Proofs.YtdbjjaodkapikaaW.PrintMore Go.Proofs.Ytdbjjaodkapikaa.Evs
set_option linter.unusedVariables false
set_option linter.unusedSimpArgs false
def putG : List Int → List Tm → List Tm → List Tm
  | [], l, _ => l
  | i :: r, l, y => if r = [] then (l.take i.toNat ++ y) ++ l.drop (i.toNat + 1) else (l.take i.toNat ++ [(⟨(rd_T42 l i).f0, (rd_T42 l i).f1, putG r (rd_T42 l i).f2 y⟩ : Tm)]) ++ l.drop (i.toNat + 1)
def putR (p : List Int) (l y : List Tm) : List Tm × Bool :=
  match rA p l with
  | none => ([], false)
  | some _ => (putG p l y, true)
theorem rA_cons {i : Int} {r : List Int} {l : List Tm} {x : Tm} (h : rA (i :: r) l = some x) : 0 ≤ i ∧ i.toNat < l.length ∧ (r ≠ [] → rA r (rd_T42 l i).f2 = some x) := by
  rw [rA] at h
  by_cases c : 0 ≤ i ∧ i.toNat < l.length
  · rw [dif_pos c] at h; refine ⟨c.1, c.2, fun hr => ?_⟩; rw [if_neg hr] at h
    have : rd_T42 l i = l[i.toNat]'c.2 := by simp [rd_T42, List.getD_eq_getElem?_getD, List.getElem?_eq_getElem c.2]
    rw [this]; exact h
  · rw [dif_neg c] at h; cases h
theorem bks_app : ∀ a b : List Tm, bk42s (a ++ b) = bk42s a + bk42s b
  | [], b => by simp [bk42s]
  | x :: r, b => by have := bks_app r b; simp only [List.cons_append, bk42s, this]; omega
theorem bks_split (l : List Tm) (i : Nat) (h : i < l.length) : bk42s l = bk42s (l.take i) + bk42 (l[i]'h) + bk42s (l.drop (i + 1)) := by
  have h1 : l = l.take i ++ l[i] :: l.drop (i + 1) := by rw [← List.drop_eq_getElem_cons h, List.take_append_drop]
  have h2 := congrArg bk42s h1; rw [bks_app] at h2; simp only [bk42s] at h2
  omega
theorem rd_in {l : List Tm} {i : Int} (h0 : i.toNat < l.length) : rd_T42 l i = l[i.toNat]'h0 := by simp [rd_T42, List.getD_eq_getElem?_getD, List.getElem?_eq_getElem h0]
theorem putG_bk : ∀ (p : List Int) (l y : List Tm) (x : Tm), rA p l = some x → bk42s (putG p l y) ≤ bk42s l + bk42s y
  | [], l, y, x, h => by simp [putG]
  | i :: r, l, y, x, h => by
    obtain ⟨h0, h1, h2⟩ := rA_cons h; have hs := bks_split l i.toNat h1; rw [putG]
    by_cases hr : r = []
    · rw [if_pos hr, bks_app, bks_app]; omega
    · have ih := putG_bk r (rd_T42 l i).f2 y x (h2 hr); rw [if_neg hr, bks_app, bks_app]
      have h3 : ∀ z : Tm, bk42s [z] = bk42 z := fun z => by simp [bk42s]
      rw [h3, bk42_eq]; rw [rd_in h1] at ih ⊢; have h4 := bk42_eq (l[i.toNat]'h1); simp only
      omega
theorem join_some {a b : List Tm} (h : a.length + b.length ≤ 2097152) : chiasmusref01_Join.f a b = some (a ++ b) := by
  unfold chiasmusref01_Join.f; simp only [Option.bind_some, List.length_nil, List.nil_append]; rw [if_pos (by omega), if_pos (by omega)]
theorem info_int' : (Try.prog.info? 3).map (fun i => (i.zero, i.size, i.bytes)) = some (some (.int .i64 0), 1, 8) := by kernel_rfl
set_option maxRecDepth 100000 in
set_option maxHeartbeats 4000000 in
theorem rPut.calls : ∀ (p : List Int) (A : Option Addr) (c : Nat) (l : List Tm) (P : Option Addr) (d : Nat) (B : Option Addr) (b : Nat) (y : List Tm) (w : World) (hC : Kd.C k42 w A l.length l) (hc : l.length ≤ c) (hP : Kd.C (Kd.int .i64) w P p.length p) (hd : p.length ≤ d) (hY : Kd.C k42 w B y.length y) (hy : y.length ≤ b) (hpl : p.length ≤ 1048576) (hb : bk42s l + bk42s y ≤ 1048576),
    Calls Try.prog 34 #[.slice A l.length c, .slice P p.length d, .slice B y.length b] w fun e w' => ∃ A' c', e = .returned (.tuple #[.slice A' (putR p l y).1.length c', .bool (putR p l y).2]) ∧ Kd.N k42 42 w' w.heap.size (fun k => w.heap.size ≤ k) (.slice A' (putR p l y).1.length c') (putR p l y).1 ∧ Below w.heap.size w w' := by
  intro p
  induction p with
  | nil =>
    intro A c l P d B b y w hC hc hP hd hY hy hpl hb; have hat := rAt.calls [] A c l P d w hC hc hP hd hpl (by omega)
    have hr0 : rAR [] l = (z42, false) := by unfold rAR; rw [rA]
    rw [hr0] at hat; have HR : Aside0 (putR [] l y = ([], false)) := ⟨by unfold putR; rw [rA]⟩; have HAT := Aside0.mk hat; clear hC hc hP hd hY hy hpl hb hat hr0
    go_enter Try.func34, Try.ntmps34
    go_wp2_with fail
    refine HAT.out.mono ?_; rintro e w1 ⟨A', c', rfl, hl', hC', hb1⟩; have HB2 := Aside0.mk (q14 hb1 ((Below.refl _ _).alloc (Nat.le_refl _) (.cells #[.int .i64 z42.f0, .string z42.f1, .slice A' z42.f2.length c'] 42))); clear hl' hC' hb1
    go_wp2_with fail
    go_ret2
    rw [HR.out]; exact ⟨none, 0, rfl, Kd.N_nil _ _ _ _ _, HB2.out⟩
  | cons i r ih =>
    intro A c l P d B b y w hC hc hP hd hY hy hpl hb; have hat := rAt.calls (i :: r) A c l P d w hC hc hP hd hpl (by omega); obtain ⟨m, hm⟩ : ∃ m, m = (i :: r).length := ⟨_, rfl⟩
    have hm0 : 0 < m := by rw [hm]; simp
    rw [← hm] at hat hd hpl ⊢; have HAT := Aside0.mk hat; have HC := Aside0.mk hC; have HCC := Aside0.mk hc; have HP := Aside0.mk hP; have HD := Aside0.mk hd; have HY := Aside0.mk hY; have HYY := Aside0.mk hy; have HM := Aside0.mk hm; have HPL := Aside0.mk hpl; have HBK := Aside0.mk hb; have IH := Aside0.mk ih; clear hC hc hP hd hY hy hpl hb ih hm hat
    go_enter Try.func34, Try.ntmps34
    go_wp2_with fail
    refine HAT.out.mono ?_; rintro e w1 ⟨A', c', rfl, hl', hC', hb1⟩; clear hl' hC'; obtain ⟨q0, hq0⟩ : ∃ q, q = (rAR (i :: r) l).1.f0 := ⟨_, rfl⟩; obtain ⟨q1, hq1⟩ : ∃ q, q = (rAR (i :: r) l).1.f1 := ⟨_, rfl⟩; obtain ⟨q2, hq2⟩ : ∃ q, q = (rAR (i :: r) l).1.f2.length := ⟨_, rfl⟩; obtain ⟨rb, hrb⟩ : ∃ q, q = (rAR (i :: r) l).2 := ⟨_, rfl⟩; rw [← hq0, ← hq1, ← hq2, ← hrb]; clear hq0 hq1 hq2; have hb2 : Below w1.heap.size w1 (w1.alloc (.cells #[.int .i64 q0, .string q1, .slice A' q2 c'] 42)) := (Below.refl _ _).alloc (Nat.le_refl _) _; obtain ⟨W2, hW2⟩ : ∃ W2, w1.alloc (.cells #[.int .i64 q0, .string q1, .slice A' q2 c'] 42) = W2 := ⟨_, rfl⟩; rw [hW2] at hb2; have HW2 := Aside0.mk hW2; have HB2 := Aside0.mk (q14 hb1 hb2); clear hb1 hb2 hW2
    rcases hra : rA (i :: r) l with _ | x
    · have hrf : rb = false := by rw [hrb]; unfold rAR; rw [hra]
      have HR : Aside0 (putR (i :: r) l y = ([], false)) := ⟨by unfold putR; rw [hra]⟩; subst hrf; clear hrb hra
      go_upto_region 2 with fail
      rw [HW2.out]
      go_wp2_with fail
      go_ret2
      rw [HR.out]; exact ⟨none, 0, rfl, Kd.N_nil _ _ _ _ _, HB2.out⟩
    · have hrf : rb = true := by rw [hrb]; unfold rAR; rw [hra]
      have HR : Aside0 (putR (i :: r) l y = (putG (i :: r) l y, true)) := ⟨by unfold putR; rw [hra]⟩; have HRA := Aside0.mk hra; subst hrf; obtain ⟨hi0, hi1, hi2⟩ := rA_cons hra; have HKID := Aside0.mk hi2; obtain ⟨pad, rfl, hpc⟩ := Kd.at_int HP.out (0 : Int) (by omega) (by simp only [List.length_cons]; omega); rw [show pad.add (Int.toNat 0) = pad from by simp [Addr.add]] at hpc; rw [show rd (i :: r) (0 : Int) = i from by simp [rd]] at hpc; replace hpc := (HB2.out.cell (World.block_lt_of_cell? w _ hpc)).trans hpc
      have m1 : (0 : Int) < (m : Int) := by omega
      have hbk := HBK.out; have hlen := bk_len l
      have hw1 : IntKind.i64.wrap (i + 1) = i + 1 := by rw [i64_w]; rw [wrap64_id (by omega) (by omega)]
      have hi3 : i < (l.length : Int) := by omega
      have hi4 : i + 1 ≤ (l.length : Int) := by omega
      obtain ⟨i0, hinf, hz0, hsz, hz2⟩ := info_parts info_term'; obtain ⟨la, hla⟩ : ∃ la, la = l.take i.toNat := ⟨_, rfl⟩; obtain ⟨lb, hlb⟩ : ∃ lb, lb = l.drop (i.toNat + 1) := ⟨_, rfl⟩; have hct := cut_to (P := Try.prog) 22 42 .i64 Try.underlying22 hinf A l.length c i hi0 (by omega) HCC.out; have hcf := cut_from (P := Try.prog) 22 42 .i64 Try.underlying22 hinf 3 hsz A l.length c (i + 1) (by omega) hi4
      have ha1 : la.length = i.toNat := by rw [hla, List.length_take]; omega
      have hb1 : lb.length = l.length - (i + 1).toNat := by rw [hlb, List.length_drop]; omega
      have hCa : Kd.C k42 w A la.length la := by rw [hla]; exact Kd.C_take HC.out (by omega)
      have hCb := Kd.C_drop (c := c) HC.out (m := (i + 1).toNat) (by omega) HCC.out; rw [show l.drop (i + 1).toNat = lb from by rw [hlb]; congr 1; omega] at hCb; obtain ⟨A3, hA3⟩ : ∃ A3, A3 = (if c = (i + 1).toNat then A else A.map (·.add ((i + 1).toNat * 3))) := ⟨_, rfl⟩
      replace hCb : Kd.C k42 w A3 lb.length lb := by rw [hA3]; exact hCb
      obtain ⟨c3, hc3⟩ : ∃ c3, c3 = c - (i + 1).toNat := ⟨_, rfl⟩; rw [← ha1] at hct; rw [← hb1, ← hA3, ← hc3] at hcf
      have hbka : bk42s la + bk42s lb + bk42 (rd_T42 l i) = bk42s l := by rw [hla, hlb, rd_in hi1, bks_split l i.toNat hi1]; omega
      obtain ⟨k1, hk1⟩ := (rcopy_ev _ la (Nat.le_refl _) (by omega)).get; obtain ⟨k2, hk2⟩ := (rcopy_ev _ lb (Nat.le_refl _) (by omega)).get; have HK1 := Aside0.mk hk1; have HK2 := Aside0.mk hk2; have HCa := Aside0.mk hCa; have HCb := Aside0.mk hCb; have HLA := Aside0.mk hla; have HLB := Aside0.mk hlb; have HA1 : Aside0 (la.length ≤ c ∧ lb.length ≤ c3) := ⟨by have := HCC.out; omega, by have := HCC.out; omega⟩; have HBKA := Aside0.mk hbka; have HI1 := Aside0.mk hi1; have HLEN := Aside0.mk hlen; clear hrb hra hi2 hbk hlen ha1 hb1 hCa hCb hA3 hc3 hla hlb hbka hk1 hk2 hi1 hinf hz0 hsz hz2
      go_upto_region 2 with fail
      rw [HW2.out]
      go_upto_region 5 with fail
      go_region_with (first
        | (go_at_call 72; (with_reducible refine (chiasmusref01_Copy.calls k1 A c la la _ (Kd.C_below HCa.out (q26 HB2.out)) HA1.out.1 HK1.out).mono ?_); rintro e w3 ⟨va, rfl, hRa, hb3⟩; have HB3 := Aside0.mk (q14 (q26 HB2.out) hb3); have HNa := Aside0.mk (Kd.N_lower (Kd.R_N (Kd.R_mono (Kd.R_bound hRa) (fun k hk => show w.heap.size ≤ k from Nat.le_trans (q26 HB2.out).size hk.2.1))) (q26 HB2.out).size); clear hRa hb3)
        | (go_at_call 72; (with_reducible refine (chiasmusref01_Copy.calls k2 A3 c3 lb lb _ (Kd.C_below HCb.out HB3.out) HA1.out.2 HK2.out).mono ?_); rintro e w4 ⟨vb, rfl, hRb, hb4⟩; have HB4 := Aside0.mk (q14 HB3.out hb4); have HRb3 := Aside0.mk (Kd.R_V (base' := w.heap.size) (Kd.R_mono (Kd.R_bound hRb) (fun k hk => show w3.heap.size ≤ k from hk.2.1))); have HRb := Aside0.mk (Kd.V_mono HRb3.out (fun k hk => show w.heap.size ≤ k from Nat.le_trans HB3.out.size hk)); have HNa4 := Aside0.mk (Kd.N_below HNa.out hb4); have HRa4 := Aside0.mk (Kd.N_V (base' := w.heap.size) HNa4.out); have HALT := Aside0.mk (Kd.N_lt HNa.out); have HB34 := Aside0.mk hb4.size; clear hRb hb4))
      obtain ⟨Aa, ca, rfl⟩ := Kd.V_slice HRa4.out; obtain ⟨Ab, cb, rfl⟩ := Kd.V_slice HRb.out; obtain ⟨l7, hl7⟩ : ∃ l7, l7 = putG (i :: r) l y := ⟨_, rfl⟩; have HL7 := Aside0.mk hl7; have HLN : Aside0 (la.length + lb.length + 1 ≤ 1048576 ∧ bk42s l + bk42s y ≤ 1048576) := ⟨by have h1 := bk_len la; have h2 := bk_len lb; have h3 := bk42_eq (rd_T42 l i); have := HBKA.out; have := HBK.out; omega, HBK.out⟩; clear hl7
      rcases r with _ | ⟨i', r'⟩
      · have e3 : (((m : Nat) : Int) == 1) = true := by have := HM.out; simp at this; simp [this]
        obtain ⟨k3, hk3⟩ := (rcopy_ev _ y (Nat.le_refl _) (by have := HBK.out; omega)).get; have HK3 := Aside0.mk hk3; obtain ⟨l6, hl6⟩ : ∃ l6, l6 = la ++ y := ⟨_, rfl⟩
        have h7 : l7 = l6 ++ lb := by rw [HL7.out, putG, if_pos rfl, hl6, HLA.out, HLB.out]
        have hj6 : chiasmusref01_Join.f la y = some l6 := by rw [hl6]; exact join_some (by have := HLN.out; have := bk_len y; omega)
        have hj7 : chiasmusref01_Join.f l6 lb = some l7 := by rw [h7]; exact join_some (by have := HLN.out; have := bk_len y; rw [hl6, List.length_append]; omega)
        have HJ6 := Aside0.mk hj6; have HJ7 := Aside0.mk hj7; clear hk3 hl6 h7 hj6 hj7
        go_wp2_with fail
        refine (chiasmusref01_Copy.calls k3 B b y y w4 (Kd.C_below HY.out HB4.out) HYY.out HK3.out).mono ?_; rintro e w5 ⟨vy, rfl, hRy, hb5⟩; have HB5 := Aside0.mk (q14 HB4.out hb5); have HRy := Aside0.mk (Kd.R_V (base' := w.heap.size) (Kd.R_mono (Kd.R_bound hRy) (fun k hk => show w.heap.size ≤ k from Nat.le_trans HB4.out.size hk.2.1))); have HRa5 := Aside0.mk (Kd.V_below HRa4.out hb5); have HRb5 := Aside0.mk (Kd.V_below HRb.out hb5); clear hRy hb5; obtain ⟨Ay, cy, rfl⟩ := Kd.V_slice HRy.out
        go_wp2_with fail
        refine (chiasmusref01_Join.calls (fun k => w.heap.size ≤ k) Aa ca la (fun k => w.heap.size ≤ k) Ay cy y l6 w5 HRa5.out HRy.out HJ6.out).mono ?_; rintro e w6 ⟨v6, rfl, hN6, hb6⟩; have HB6 := Aside0.mk (q14 HB5.out hb6); have HR6 := Aside0.mk (Kd.N_V (base' := w.heap.size) (Kd.N_mono hN6 (fun k hk => show w.heap.size ≤ k from hk.elim (fun h => h.elim id id) (fun h => Nat.le_trans HB5.out.size h)))); have HRb6 := Aside0.mk (Kd.V_below HRb5.out hb6); clear hN6 hb6; obtain ⟨A6, c6, rfl⟩ := Kd.V_slice HR6.out
        go_wp2_with fail
        refine (chiasmusref01_Join.calls (fun k => w.heap.size ≤ k) A6 c6 l6 (fun k => w.heap.size ≤ k) Ab cb lb l7 w6 HR6.out HRb6.out HJ7.out).mono ?_; rintro e w7 ⟨v7, rfl, hN7, hb7⟩; have HB7 := Aside0.mk (q14 HB6.out hb7); have HN7 := Aside0.mk (Kd.N_lower (Kd.N_mono hN7 (fun k hk => show w.heap.size ≤ k from hk.elim (fun h => h.elim id id) (fun h => Nat.le_trans HB6.out.size h))) HB6.out.size); clear hN7 hb7; obtain ⟨A7, c7, rfl⟩ := Kd.N_slice HN7.out
        go_wp2_with fail
        go_ret2
        rw [HR.out, ← HL7.out]; exact ⟨A7, c7, rfl, HN7.out, HB7.out⟩
      · have e3 : (((m : Nat) : Int) == 1) = false := by have := HM.out; simp at this; simp; omega
        obtain ⟨ad, Ak, ck, rfl, hx0, hx1, hx2, hl2, hr2⟩ := at_T42 HC.out i hi0 hi3; obtain ⟨z, hz⟩ : ∃ z, z = rd_T42 l i := ⟨_, rfl⟩; rw [← hz] at hx0 hx1 hx2 hl2 hr2; replace hx0 := (HB4.out.cell (World.block_lt_of_cell? w _ hx0)).trans hx0; replace hx1 := (HB4.out.cell (World.block_lt_of_cell? w _ hx1)).trans hx1; replace hx2 := (HB4.out.cell (World.block_lt_of_cell? w _ hx2)).trans hx2; obtain ⟨lk, hlk⟩ : ∃ lk, lk = putG (i' :: r') z.f2 y := ⟨_, rfl⟩
        have hkr : rA (i' :: r') z.f2 = some x := by rw [hz]; exact HKID.out (by simp)
        have hpr : putR (i' :: r') z.f2 y = (lk, true) := by unfold putR; rw [hkr, hlk]
        have hlkb : bk42s lk ≤ bk42s z.f2 + bk42s y := by rw [hlk]; exact putG_bk _ _ _ _ hkr
        have hzb : bk42 z ≤ bk42s l := by rw [hz]; have := HBKA.out; omega
        have hze := bk42_eq z; have hD1 : m ≤ d ∧ m - 1 = (i' :: r').length := ⟨HD.out, by have := HM.out; simp at this ⊢; omega⟩; have HLKB : Aside0 (bk42s lk ≤ 1048576 ∧ z.f1.size ≤ 1048576) := ⟨by have := HBK.out; omega, by have := HBK.out; omega⟩
        have HIH : Aside0 (∀ (P : Option Addr) (n d : Nat) (W : World), n = (i' :: r').length → Kd.C k42 W Ak z.f2.length z.f2 → Kd.C (Kd.int .i64) W P n (i' :: r') → n ≤ d → Kd.C k42 W B y.length y →
            Calls Try.prog 34 #[.slice Ak z.f2.length ck, .slice P n d, .slice B y.length b] W fun e w' => ∃ A' c', e = .returned (.tuple #[.slice A' lk.length c', .bool true]) ∧ Kd.N k42 42 w' W.heap.size (fun k => W.heap.size ≤ k) (.slice A' lk.length c') lk ∧ Below W.heap.size W w') :=
          ⟨fun P n d W hn h1 h2 h3 h4 => by
            subst hn; have h := IH.out Ak ck z.f2 P d B b y W h1 hl2 h2 h3 h4 HYY.out (by have := HPL.out; omega) (by have := HBK.out; omega); rw [hpr] at h
            exact h⟩
        have HT : Aside0 (Kd.C (Kd.int .i64) w (some (pad.add 1)) (m - 1) (i' :: r')) := ⟨by
          have h := Kd.C_drop (c := d) HP.out (m := 1) (by simp) (by rw [← HM.out]; exact HD.out); rw [if_neg (by have := hD1.1; have := hD1.2; simp at this; omega)] at h
          rw [hD1.2]; exact h⟩
        obtain ⟨i1, hinf1, hz01, hsz1, hz21⟩ := info_parts info_int'; have hcp := cut_from (P := Try.prog) 40 3 .i64 Try.underlying40 hinf1 1 hsz1 (some pad) m d (1 : Int) (by omega) (by omega); have hmd : m ≤ d := HD.out
        have hm1 : 1 < m := by have := hD1.2; simp at this; omega
        rw [if_neg (by simp; omega)] at hcp; obtain ⟨P1, hP1⟩ : ∃ P1, P1 = (some pad : Option Addr).map (·.add ((1 : Int).toNat * 1)) := ⟨_, rfl⟩; obtain ⟨m', hm'⟩ : ∃ m', m' = m - (1 : Int).toNat := ⟨_, rfl⟩; obtain ⟨d', hd'⟩ : ∃ d', d' = d - (1 : Int).toNat := ⟨_, rfl⟩; rw [← hP1, ← hm', ← hd'] at hcp
        have hm'' : m' = m - 1 := by rw [hm']; rfl
        have hd'' : d' = d - 1 := by rw [hd']; rfl
        have HT' : Aside0 (Kd.C (Kd.int .i64) w P1 m' (i' :: r') ∧ m' = (i' :: r').length ∧ m' ≤ d') := ⟨by rw [hP1, hm'']; exact HT.out, by rw [hm'']; exact hD1.2, by omega⟩; clear hP1 hm' hd' hm'' hd'' hmd hm1 hinf1 hz01 hsz1 hz21; obtain ⟨l6, hl6⟩ : ∃ l6, l6 = la ++ [(⟨z.f0, z.f1, lk⟩ : Tm)] := ⟨_, rfl⟩
        have h7 : l7 = l6 ++ lb := by rw [HL7.out, putG, if_neg (by simp), hl6, HLA.out, HLB.out, hlk, hz]
        have hj7 : chiasmusref01_Join.f l6 lb = some l7 := by rw [h7]; exact join_some (by have := HLN.out; rw [hl6, List.length_append]; simp; omega)
        have HJ7 := Aside0.mk hj7; have HL6 := Aside0.mk hl6; have HD1 := Aside0.mk hD1; have HR2 := Aside0.mk hr2; clear hz hlk hkr hpr hlkb hzb hze hD1 hl2 hr2 hl6 h7 hj7
        go_upto_region 8 with fail
        go_region_held3 (fun W' => W'.cell? ⟨(ad.add (i.toNat * 3)).block, (ad.add (i.toNat * 3)).off + 2, none⟩ = some (.slice Ak z.f2.length ck)) (first | exact y2 | exact hx2 | assumption) ((go_at_call 34; refine (HIH.out _ m' d' _ HT'.out.2.1 (Kd.C_below HR2.out (q26 HB4.out)) (Kd.C_below HT'.out.1 (q26 HB4.out)) HT'.out.2.2 (Kd.C_below HY.out (q26 HB4.out))).mono ?_; rintro e w5 ⟨A5, c5, rfl, hN5, hb5⟩; have HN5 := Aside0.mk hN5; have HB5 := Aside0.mk (q14 (q26 HB4.out) hb5); have HNa5 := Aside0.mk (Kd.N_below (Kd.N_drew HNa4.out) hb5); have HRb5 := Aside0.mk (Kd.V_below (Kd.V_drew HRb3.out) hb5); have y0 := (hb5.cell (World.block_lt_of_cell? _ _ hx0)).trans hx0; have y1 := (hb5.cell (World.block_lt_of_cell? _ _ hx1)).trans hx1; have y2 := (hb5.cell (World.block_lt_of_cell? _ _ hx2)).trans hx2; have HS5 := Aside0.mk hb5.size; clear hN5 hb5))
        go_upto_region 9 with fail
        have n0 := World.new_ne w5 _ y0; have n1 := World.new_ne w5 _ y1
        go_region_held3 (fun W' => W'.cell? (ad.add (i.toNat * 3)) = some (.int .i64 z.f0) ∧ W'.cell? ⟨(ad.add (i.toNat * 3)).block, (ad.add (i.toNat * 3)).off + 1, none⟩ = some (.string z.f1)) (first | exact ⟨y0, y1⟩ | go_keep) (fail)
        have hb9 : Below w5.heap.size w5 (w5.alloc (.cells #[.int .i64 z.f0, .string z.f1, .slice A5 lk.length c5] 42)).drew := q26 ((Below.refl _ _).alloc (Nat.le_refl _) _); have hn9 : ((w5.alloc (.cells #[.int .i64 z.f0, .string z.f1, .slice A5 lk.length c5] 42)).drew).heap[w5.heap.size]? = some (.cells #[.int .i64 z.f0, .string z.f1, .slice A5 lk.length c5] 42 (0, 0)) := World.alloc_heap_new w5 _; obtain ⟨W9, hW9⟩ : ∃ W9, (w5.alloc (.cells #[.int .i64 z.f0, .string z.f1, .slice A5 lk.length c5] 42)).drew = W9 := ⟨_, rfl⟩; rw [hW9] at hb9 hn9; have HW9 := Aside0.mk hW9; have HB9 := Aside0.mk (q14 HB5.out hb9); have v0 : W9.cell? ⟨w5.heap.size, 0, none⟩ = some (.int .i64 z.f0) := (q9 hn9 0).trans rfl; have v1 : W9.cell? ⟨w5.heap.size, 1, none⟩ = some (.string z.f1) := (q9 hn9 1).trans rfl; have v2 : W9.cell? ⟨w5.heap.size, 2, none⟩ = some (.slice A5 lk.length c5) := (q9 hn9 2).trans rfl; have HNa9 := Aside0.mk (Kd.N_below HNa5.out hb9); have HRb9 := Aside0.mk (Kd.V_below HRb5.out hb9); have HFK := Aside0.mk (k42_mkF W9 (fun k => w4.drew.heap.size ≤ k) (⟨z.f0, z.f1, lk⟩ : Tm) (Kd.N_reads' HN5.out).2.1 (Kd.F_below (Kd.N_F HN5.out) hb9)); have HOKP : Aside0 (∀ k, w4.drew.heap.size ≤ k → w.heap.size ≤ k ∧ some k ≠ (Value.slice Aa la.length ca).ownBlock) := ⟨fun k hk => ⟨Nat.le_trans HB4.out.size hk, fun he => by have h1 := HALT.out k he.symm; have h2 := HB34.out; have h3 : w4.heap.size ≤ k := hk; omega⟩⟩; have HOKB : Aside0 (∀ k, w3.heap.size ≤ k → some k ≠ (Value.slice Aa la.length ca).ownBlock) := ⟨fun k hk he => by have h1 := HALT.out k he.symm; omega⟩; clear hb9 hn9 hW9 y0 y1 y2 n0 n1 hx0 hx1 hx2
        go_upto_region 10 with fail
        rw [HW9.out]
        go_wp2_with ((with_reducible refine gate_builtin (b := .append) (xs := #[.tmp 69, .tmp 71]) rfl ?_); at_builtin; refine Kd.N_append k42 (w0 := w) w.heap.size rfl (.tmp 69) (.tmp 71) 22 42 (.agg #[.int .i64 0, .string ⟨#[]⟩, .slice none 0 0]) 48 rfl Try.underlying22 info_term' rfl (by decide) (by decide) (.slice Aa la.length ca) la (⟨z.f0, z.f1, lk⟩ : Tm) [.int .i64 z.f0, .string z.f1, .slice A5 lk.length c5] (fun k => w.heap.size ≤ k) (fun k => w4.drew.heap.size ≤ k) rfl rfl HFK.out HOKP.out (fun k hk => Nat.le_trans HB9.out.size hk) HNa9.out HB9.out HB9.out.size (by have := HLN.out.1; omega) ?_; intro v10 w10 ho hb10 hg hat; have HO := Aside0.mk ho; have HB10 := Aside0.mk hb10; have HRb10 := Aside0.mk (Kd.V_grown HRb9.out hg HOKB.out); clear ho hb10 hg hat)
        have HO6 : Aside0 (Kd.N k42 42 w10 w.heap.size (fun k => w.heap.size ≤ k) v10 l6) := ⟨by rw [HL6.out]; exact HO.out⟩; clear HO; obtain ⟨A10, c10, rfl⟩ := Kd.N_slice HO6.out; refine (chiasmusref01_Join.calls (fun k => w.heap.size ≤ k) A10 c10 l6 (fun k => w3.heap.size ≤ k) Ab cb lb l7 w10 (Kd.N_V (base' := w.heap.size) HO6.out) HRb10.out HJ7.out).mono ?_; rintro e w11 ⟨v11, rfl, hN11, hb11⟩; have HB11 := Aside0.mk (q14 HB10.out hb11); have HN11 := Aside0.mk (Kd.N_lower (Kd.N_mono hN11 (fun k hk => show w.heap.size ≤ k from hk.elim (fun h => h.elim id (fun h => Nat.le_trans HB3.out.size h)) (fun h => Nat.le_trans HB10.out.size h))) HB10.out.size); clear hN11 hb11; obtain ⟨A11, c11, rfl⟩ := Kd.N_slice HN11.out
        go_wp2_with fail
        go_ret2
        rw [HR.out, ← HL7.out]; exact ⟨A11, c11, rfl, HN11.out, HB11.out⟩
end Go.Proofs.Ytdbjjaodkapikaa.TE
end
section
namespace Go.Proofs.Ytdbjjaodkapikaa.TE
open Go.RowKit Go.Shelf Go.Proofs.YtdbjjaodkapikaaW.PrintWords Go.Proofs.YtdbjjaodkapikaaW.PrintLast Go.Proofs.YtdbjjaodkapikaaW.PrintMore Go.Proofs.Ytdbjjaodkapikaa.Evs
set_option linter.unusedVariables false
set_option linter.unusedSimpArgs false
def sub : List Int → List Tm → List Tm
  | [], l => l
  | i :: r, l => sub r (rd_T42 l i).f2
def plug : List Int → List Tm → List Tm → List Tm
  | [], _, y => y
  | i :: r, l, y => l.set i.toNat ⟨(rd_T42 l i).f0, (rd_T42 l i).f1, plug r (rd_T42 l i).f2 y⟩
theorem sub_snoc : ∀ (q : List Int) (i : Int) (l : List Tm), sub (q ++ [i]) l = (rd_T42 (sub q l) i).f2
  | [], i, l => rfl
  | j :: q, i, l => sub_snoc q i _
theorem plug_snoc : ∀ (q : List Int) (i : Int) (l y : List Tm), plug (q ++ [i]) l y = plug q l ((sub q l).set i.toNat ⟨(rd_T42 (sub q l) i).f0, (rd_T42 (sub q l) i).f1, y⟩)
  | [], i, l, y => rfl
  | j :: q, i, l, y => by
    rw [List.cons_append, plug, plug_snoc q i]; rfl
def Leads : List Int → List Tm → Prop
  | [], _ => True
  | i :: r, l => 0 ≤ i ∧ i.toNat < l.length ∧ Leads r (rd_T42 l i).f2
theorem leads_of : ∀ (p : List Int) (l : List Tm) (x : Tm), rA p l = some x → Leads p l
  | [], _, _, _ => trivial
  | i :: r, l, x, h => by
    obtain ⟨h0, h1, h2⟩ := rA_cons h; refine ⟨h0, h1, ?_⟩
    by_cases hr : r = []
    · subst hr; trivial
    · exact leads_of r _ x (h2 hr)
theorem leads_app : ∀ (q : List Int) (i : Int) (r : List Int) (l : List Tm), Leads (q ++ i :: r) l → 0 ≤ i ∧ i.toNat < (sub q l).length
  | [], i, r, l, h => ⟨h.1, h.2.1⟩
  | j :: q, i, r, l, h => leads_app q i r _ h.2.2
theorem leads_pre : ∀ (q r : List Int) (l : List Tm), Leads (q ++ r) l → Leads q l
  | [], _, _, _ => trivial
  | j :: q, r, l, h => ⟨h.1, h.2.1, leads_pre q r _ h.2.2⟩
theorem leads_at {p : List Int} {l : List Tm} (h : Leads p l) (k : Nat) (hk : k < p.length) : 0 ≤ p[k] ∧ p[k].toNat < (sub (p.take k) l).length ∧ Leads (p.take k) l ∧ p.take (k + 1) = p.take k ++ [p[k]] := by
  have e : p = p.take k ++ p[k] :: p.drop (k + 1) := by rw [← List.drop_eq_getElem_cons hk, List.take_append_drop]
  have h' : Leads (p.take k ++ p[k] :: p.drop (k + 1)) l := by rw [← e]; exact h
  obtain ⟨h1, h2⟩ := leads_app _ _ _ _ h'; exact ⟨h1, h2, leads_pre _ _ _ h', by rw [List.take_succ_eq_append_getElem hk]⟩
theorem foc_cell {w1 : World} {g off : Nat} {u : Value} (h : ∃ cs t, w1.heap[g]? = some (.cells cs t (0, 0)) ∧ cs[off]? = some u) : w1.cell? ⟨g, off, none⟩ = some u ∧ w1.frozen? ⟨g, off, none⟩ = false ∧ g < w1.heap.size := by
  obtain ⟨cs, t, h1, h2⟩ := h; exact ⟨(q9 h1 off).trans h2, q15 h1 off, blk_lt h1⟩
theorem putG_plug : ∀ (q : List Int) (i : Int) (l y : List Tm), Leads (q ++ [i]) l → putG (q ++ [i]) l y = plug q l (((sub q l).take i.toNat ++ y) ++ (sub q l).drop (i.toNat + 1))
  | [], i, l, y, h => by
    show putG [i] l y = _; rw [putG, if_pos rfl]; rfl
  | j :: q, i, l, y, h => by
    show putG (j :: (q ++ [i])) l y = l.set j.toNat _; rw [putG, if_neg (by simp), putG_plug q i _ y h.2.2, List.set_eq_take_append_cons_drop, if_pos h.2.1]; simp [sub]
theorem sub_bk : ∀ (q : List Int) (l : List Tm), Leads q l → bk42s (sub q l) ≤ bk42s l
  | [], l, _ => Nat.le_refl _
  | j :: q, l, h => by
    have h1 := sub_bk q _ h.2.2; have h2 := bks_split l j.toNat h.2.1; have h3 := bk42_eq (l[j.toNat]'h.2.1); rw [sub]; rw [rd_in h.2.1] at h1 ⊢
    omega
structure Foc (w1 : World) (bo : Nat) (l : List Tm) (n : Nat) (q : List Int) (g off lo hi : Nat) (u : Value) : Prop where
  blk : ∃ cs t, w1.heap[g]? = some (.cells cs t (0, 0)) ∧ cs[off]? = some u
  tree : OT w1 n (sub q l) u lo hi
  out : ¬ (lo ≤ g ∧ g < hi)
  top : hi ≤ w1.heap.size
  change : ∀ (W' : World) (A' : Option Addr) (c' : Nat) (y : List Tm), (∀ k, k < w1.heap.size → k ≠ g → ¬ (lo ≤ k ∧ k < hi) → W'.heap[k]? = w1.heap[k]?) → (∀ cs t, w1.heap[g]? = some (.cells cs t (0, 0)) → W'.heap[g]? = some (.cells (cs.setIfInBounds off (.slice A' y.length c')) t (0, 0))) →
    y.length ≤ c' → Kd.C k42 W' A' y.length y → ∃ A c, W'.cell? ⟨bo, 0, none⟩ = some (.slice A (plug q l y).length c) ∧ (plug q l y).length ≤ c ∧ Kd.C k42 W' A (plug q l y).length (plug q l y)
theorem Foc.start {w1 : World} {l : List Tm} {n lo : Nat} {u : Value} (h : OT w1 n l u lo w1.heap.size) : Foc (w1.alloc (.cells #[u] 22)) w1.heap.size l n [] w1.heap.size 0 lo w1.heap.size u := by
  have hb : Below w1.heap.size w1 (w1.alloc (.cells #[u] 22)) := (Below.refl _ _).alloc (Nat.le_refl _) _; have hn := World.alloc_heap_new w1 (.cells #[u] 22); refine ⟨⟨#[u], _, hn, rfl⟩, OT.frame n _ _ _ _ h (fun k _ hk => hb.block k hk), by omega, hb.size, fun W' A' c' y h1 h2 h3 h4 => ?_⟩; have h5 := h2 _ _ hn; exact ⟨A', c', (q9 h5 0).trans rfl, h3, h4⟩
theorem set_self' {cs : Array Value} {i : Nat} {u : Value} (h : cs[i]? = some u) : cs.setIfInBounds i u = cs := by
  obtain ⟨hl, hv⟩ := Array.getElem?_eq_some_iff.1 h; apply Array.ext_getElem?; intro j
  by_cases hj : i = j
  · subst hj; rw [set_same h rfl, h]
  · rw [set_other hj]
theorem Foc.step {w1 : World} {bo : Nat} {l : List Tm} {n : Nat} {q : List Int} {g off lo hi : Nat} {u : Value} (h : Foc w1 bo l n q g off lo hi u) (i : Nat) (hi1 : i < (sub q l).length) (hbk : bk42s (sub q l) ≤ 1048576) :
    ∃ b c n' lo' hi' u', u = .slice (some ⟨b, 0, none⟩) (sub q l).length c ∧ (sub q l).length ≤ c ∧ lo ≤ b ∧ lo ≤ lo' ∧ Foc w1 bo l n' (q ++ [(i : Int)]) b (i * 3 + 2) lo' hi' u' := by
  obtain ⟨cs0, t0, hg1, hg2⟩ := h.blk; have ht := h.tree
  cases n with
  | zero => obtain ⟨h0, _⟩ := ht; rw [h0] at hi1; simp at hi1
  | succ n =>
    rcases ht with ⟨h0, _⟩ | ⟨b, c, cs, f, hu, hc, hlo, hlow, hhi, hmono, hrow, hall⟩
    · rw [h0] at hi1; simp at hi1
    · have hm := mono_le hmono; have hx : (sub q l)[i]? = some ((sub q l)[i]'hi1) := List.getElem?_eq_getElem hi1; obtain ⟨u', a1, a2, a3, a4⟩ := hall i _ hx
      have hrd : rd_T42 (sub q l) (i : Int) = (sub q l)[i]'hi1 := by simp [rd_T42, List.getD_eq_getElem?_getD, hx]
      have hbg : g ≠ b := fun e => h.out (by subst e; have := hm 0 (sub q l).length (Nat.zero_le _) (Nat.le_refl _); omega)
      have h00 := hm 0 i (Nat.zero_le _) (by omega); have h0n := hm (i + 1) (sub q l).length (by omega) (Nat.le_refl _); have hii := hmono i (by omega); refine ⟨b, c, n, f i, f (i + 1), u', hu, hc, by omega, by omega, ⟨⟨cs, _, hrow, a3⟩, by rw [sub_snoc, hrd]; exact a4, by omega, by have := h.top; omega, fun W' A' c' y h1 h2 h3 h4 => ?_⟩⟩; rw [plug_snoc]; have hrow' := h2 _ _ hrow
      have hlen : ∀ z : Tm, ((sub q l).set (i : Int).toNat z).length = (sub q l).length := fun z => List.length_set
      have hgsame : W'.heap[g]? = w1.heap[g]? := h1 g (blk_lt hg1) hbg (fun e => h.out (by omega)); refine h.change W' (some ⟨b, 0, none⟩) c _ (fun k hk hkg hko => h1 k hk (fun e => hko (by omega)) (fun e => hko (by omega))) (fun cs' t' hcs' => ?_) (by rw [hlen]; exact hc) ?_
      · rw [hgsame, hlen, ← hu]; rw [hg1] at hcs'
        injection hcs' with hcs'
        injection hcs' with e1 e2 e3
        subst e1; subst e2; rw [set_self' hg2]; exact hg1
      · rw [Int.toNat_natCast]; refine ⟨rfl, by rw [List.length_set]; have := bk_len (sub q l); omega, fun _ => ⟨_, rfl, fun j p hp => ?_⟩⟩; have cell : ∀ (x : Tm) (A2 : Option Addr) (c2 : Nat), (cs.setIfInBounds (i * 3 + 2) (.slice A' y.length c'))[j * 3]? = some (.int .i64 x.f0) → (cs.setIfInBounds (i * 3 + 2) (.slice A' y.length c'))[j * 3 + 1]? = some (.string x.f1) → (cs.setIfInBounds (i * 3 + 2) (.slice A' y.length c'))[j * 3 + 2]? = some (.slice A2 x.f2.length c2) → x.f2.length ≤ c2 → Kd.C k42 W' A2 x.f2.length x.f2 →
            ∃ c : List Value, c.length = k42.sz ∧ k42.K W' x c ∧ ∀ i u, c[i]? = some u → W'.cell? ((⟨b, 0, none⟩ : Addr).add (j * k42.sz + i)) = some u := fun x A2 c2 b1 b2 b3 l2 g2 => by
          refine ⟨[.int .i64 x.f0, .string x.f1, .slice A2 x.f2.length c2], rfl, k42_mk W' x l2 g2, fun m u hu => ?_⟩; rw [add_plain]; refine (q9 hrow' _).trans ?_
          match m, hu with
          | 0, hu => exact b1.trans hu
          | 1, hu => exact b2.trans hu
          | 2, hu => exact b3.trans hu
        by_cases hji : j = i
        · subst hji; rw [List.getElem?_set_self (by omega)] at hp
          injection hp with hp
          subst hp; rw [hrd]; exact cell ⟨_, _, y⟩ A' c' ((set_other (by omega)).trans a1) ((set_other (by omega)).trans a2) (set_same a3 rfl) h3 h4
        · rw [List.getElem?_set_ne (fun e => hji e.symm)] at hp; obtain ⟨v, d1, d2, d3, d4⟩ := hall j p hp; have hjl := idx_lt hp
          have hfo : ∀ k, f j ≤ k → k < f (j + 1) → W'.heap[k]? = w1.heap[k]? := fun k k1 k2 => by
            have g1 := hm 0 j (Nat.zero_le _) (by omega); have g2 := hm (j + 1) (sub q l).length (by omega) (Nat.le_refl _); have g3 := h.top; refine h1 k (by omega) (by omega) (fun e => ?_)
            rcases Nat.lt_or_ge j i with h5 | h5
            · have := hm (j + 1) i (by omega) (by omega); omega
            · have := hm (i + 1) j (by omega) (by omega); omega
          obtain ⟨A2, c2, rfl, l2, g2⟩ := OT.reads (OT.frame n _ _ _ _ d4 hfo) (by have := bk_mem (List.mem_of_getElem? hp); omega); exact cell p A2 c2 ((set_other (by omega)).trans d1) ((set_other (by omega)).trans d2) ((set_other (by omega)).trans d3) l2 g2
theorem rows3_F {W : World} {ok : Nat → Prop} {b : Nat} {A1 A2 A3 : Option Addr} {c1 c2 c3 : Nat} {l1 l2 l3 : List Tm} (h : W.heap[b]? = some (.cells #[.slice A1 l1.length c1, .slice A2 l2.length c2, .slice A3 l3.length c3] 22 (0, 0))) (hb : ok b)
    (h1 : l1.length ≤ c1) (f1 : Kd.F k42 W ok A1 l1.length l1) (h2 : l2.length ≤ c2) (f2 : Kd.F k42 W ok A2 l2.length l2) (h3 : l3.length ≤ c3) (f3 : Kd.F k42 W ok A3 l3.length l3) :
    Kd.F (Kd.slice 42 k42) W ok (some ⟨b, 0, none⟩) 3 [l1, l2, l3] := by
  intro W' hW; have hrow := (hW b hb (blk_lt h)).trans h; refine ⟨rfl, by decide, fun _ => ⟨_, rfl, fun j p hp => ?_⟩⟩
  match j, hp with
  | 0, hp =>
    obtain rfl : l1 = p := by simpa using hp
    exact ⟨[.slice A1 l1.length c1], rfl, ⟨A1, c1, rfl, h1, f1 W' hW⟩, fun i u hu => by rw [add_plain]; match i, hu with | 0, hu => exact (q9 hrow _).trans hu⟩
  | 1, hp =>
    obtain rfl : l2 = p := by simpa using hp
    exact ⟨[.slice A2 l2.length c2], rfl, ⟨A2, c2, rfl, h2, f2 W' hW⟩, fun i u hu => by rw [add_plain]; match i, hu with | 0, hu => exact (q9 hrow _).trans hu⟩
  | 2, hp =>
    obtain rfl : l3 = p := by simpa using hp
    exact ⟨[.slice A3 l3.length c3], rfl, ⟨A3, c3, rfl, h3, f3 W' hW⟩, fun i u hu => by rw [add_plain]; match i, hu with | 0, hu => exact (q9 hrow _).trans hu⟩
theorem OT.foot {W : World} {n : Nat} {l : List Tm} {v : Value} {lo hi : Nat} (h : OT W n l v lo hi) (hb : bk42s l ≤ 1048576) : ∃ A c, v = .slice A l.length c ∧ l.length ≤ c ∧ Kd.F k42 W (fun k => lo ≤ k ∧ k < hi) A l.length l := by
  obtain ⟨A, c, rfl, h1, h2⟩ := OT.reads h hb; refine ⟨A, c, rfl, h1, fun W' hW => ?_⟩; obtain ⟨A', c', e, _, h4⟩ := OT.reads (OT.frame' n l _ lo hi h (fun k k1 k2 o ho => (hW k ⟨k1, k2⟩ (blk_lt ho)).trans ho)) hb
  injection e with e1 e2 e3
  subst e1; exact h4
end Go.Proofs.Ytdbjjaodkapikaa.TE
end
section
namespace Go.Proofs.Ytdbjjaodkapikaa.TE
open Go.RowKit Go.Proofs.YtdbjjaodkapikaaW.PrintWords Go.Proofs.YtdbjjaodkapikaaW.PrintLast Go.Proofs.YtdbjjaodkapikaaW.PrintMore Go.Proofs.Ytdbjjaodkapikaa.Evs
set_option linter.unusedVariables false
set_option linter.unusedSimpArgs false
theorem less_cons (x y : UInt8) (a b : List UInt8) : Op.bytesLess (x :: a) (y :: b) = true ↔ x.toNat < y.toNat ∨ (x.toNat = y.toNat ∧ Op.bytesLess a b = true) := by
  simp only [Op.bytesLess, Bool.or_eq_true, decide_eq_true_eq, Bool.and_eq_true, beq_iff_eq, UInt8.lt_iff_toNat_lt]; rw [← UInt8.toNat_inj]
theorem less_trans : ∀ a b c : List UInt8, Op.bytesLess b a = false → Op.bytesLess c b = false → Op.bytesLess c a = false
  | [], _, c, _, _ => by cases c <;> simp [Op.bytesLess]
  | x :: a, [], c, h, _ => by simp [Op.bytesLess] at h
  | x :: a, y :: b, [], _, h => by simp [Op.bytesLess] at h
  | x :: a, y :: b, z :: c, h1, h2 => by
    have ih := less_trans a b c; rw [Bool.eq_false_iff] at *; simp only [ne_eq, less_cons] at *; intro h
    rcases Nat.lt_trichotomy x.toNat y.toNat with g | g | g
    · rcases h with h | h
      · exact h2 (.inl (by omega))
      · exact h2 (.inl (by omega))
    · rcases Nat.lt_trichotomy y.toNat z.toNat with k | k | k
      · rcases h with h | h <;> omega
      · exact Bool.eq_false_iff.1 (ih (fun e => h1 (.inr ⟨g.symm, e⟩)) (Bool.eq_false_iff.2 (fun e => h2 (.inr ⟨k.symm, e⟩)))) (h.elim (fun h => by omega) (fun h => h.2))
      · exact h2 (.inl k)
    · exact h1 (.inl g)
theorem less_asym : ∀ a b : List UInt8, Op.bytesLess a b = true → Op.bytesLess b a = false
  | [], [], h => by simp [Op.bytesLess] at h
  | [], _ :: _, _ => by simp [Op.bytesLess]
  | _ :: _, [], h => by simp [Op.bytesLess] at h
  | x :: a, y :: b, h => by
    have ih := less_asym a b; rw [Bool.eq_false_iff] at *; rw [less_cons] at h; intro h2; rw [less_cons] at h2
    rcases h with h | h
    · rcases h2 with h2 | h2 <;> omega
    · rcases h2 with h2 | h2
      · omega
      · exact ih h.2 h2.2
def sg (a b : ByteArray) : Int := if Op.bytesLess a.toList b.toList = true then -1 else if Op.bytesLess b.toList a.toList = true then 1 else 0
theorem sg_sign (a b : ByteArray) : chiasmusref01_Sign.f a b = some (sg a b) := by
  unfold chiasmusref01_Sign.f sg
  split
  · rfl
  · split <;> rfl
theorem sg_zero (a b : ByteArray) : sg a b = 0 ↔ a = b := by
  obtain ⟨v, h1, h2⟩ := sign_eq a b; rw [sg_sign] at h1
  injection h1 with h1
  rw [h1]; exact h2
theorem sg_anti (a b : ByteArray) : sg b a = - sg a b := by
  unfold sg
  by_cases c : Op.bytesLess a.toList b.toList = true
  · have c2 := less_asym _ _ c; simp [c, c2]
  · by_cases c2 : Op.bytesLess b.toList a.toList = true
    · simp [c, c2]
    · simp [c, c2]
theorem sg_le (a b : ByteArray) : sg a b ≤ 0 ↔ Op.bytesLess b.toList a.toList = false := by
  unfold sg
  by_cases c : Op.bytesLess a.toList b.toList = true
  · rw [if_pos c]; simp [less_asym _ _ c]
  · rw [if_neg c]
    by_cases c2 : Op.bytesLess b.toList a.toList = true
    · rw [if_pos c2]; simp [c2]
    · rw [if_neg c2]; simpa using c2
theorem sg_trans {a b c : ByteArray} (h1 : sg a b ≤ 0) (h2 : sg b c ≤ 0) : sg a c ≤ 0 := by
  rw [sg_le] at *; exact less_trans _ _ _ h1 h2
def cmpL : List Tm → List Tm → Int
  | [], [] => 0
  | [], _ :: _ => -1
  | _ :: _, [] => 1
  | x :: a, y :: b => if x.f0 = y.f0 then (if sg x.f1 y.f1 = 0 then (if cmpL x.f2 y.f2 = 0 then cmpL a b else cmpL x.f2 y.f2) else sg x.f1 y.f1) else (if x.f0 < y.f0 then -1 else 1)
  termination_by a => SizeOf.sizeOf a
  decreasing_by all_goals (cases x; simp; omega)
theorem cmp_cons (x y : Tm) (a b : List Tm) : cmpL (x :: a) (y :: b) = if x.f0 = y.f0 then (if sg x.f1 y.f1 = 0 then (if cmpL x.f2 y.f2 = 0 then cmpL a b else cmpL x.f2 y.f2) else sg x.f1 y.f1) else (if x.f0 < y.f0 then -1 else 1) := by rw [cmpL]
theorem cmp_anti : ∀ a b : List Tm, cmpL b a = - cmpL a b
  | [], [] => by simp [cmpL]
  | [], _ :: _ => by simp [cmpL]
  | _ :: _, [] => by simp [cmpL]
  | x :: a, y :: b => by
    have h1 := cmp_anti x.f2 y.f2; have h2 := cmp_anti a b; have h3 := sg_anti x.f1 y.f1; rw [cmp_cons, cmp_cons, h1, h2, h3]
    by_cases c0 : x.f0 = y.f0
    · rw [if_pos c0, if_pos c0.symm]
      by_cases c1 : sg x.f1 y.f1 = 0
      · rw [if_pos c1, if_pos (by omega)]
        by_cases c2 : cmpL x.f2 y.f2 = 0
        · rw [if_pos c2, if_pos (by omega)]
        · rw [if_neg c2, if_neg (by omega)]
      · rw [if_neg c1, if_neg (by omega)]
    · rw [if_neg c0, if_neg (fun e => c0 e.symm)]
      by_cases c1 : x.f0 < y.f0
      · rw [if_pos c1, if_neg (by omega)]; rfl
      · rw [if_neg c1, if_pos (by omega)]
  termination_by a => SizeOf.sizeOf a
  decreasing_by all_goals (cases x; simp; omega)
theorem cmp_range : ∀ a b : List Tm, -1 ≤ cmpL a b ∧ cmpL a b ≤ 1
  | [], [] => by simp [cmpL]
  | [], _ :: _ => by simp [cmpL]
  | _ :: _, [] => by simp [cmpL]
  | x :: a, y :: b => by
    have h1 := cmp_range x.f2 y.f2; have h2 := cmp_range a b
    have h3 : -1 ≤ sg x.f1 y.f1 ∧ sg x.f1 y.f1 ≤ 1 := by unfold sg; split <;> (try split) <;> omega
    rw [cmp_cons]
    split
    · split
      · split
        · exact h2
        · exact h1
      · exact h3
    · split <;> omega
  termination_by a => SizeOf.sizeOf a
  decreasing_by all_goals (cases x; simp; omega)
theorem tm_ext {x y : Tm} (h0 : x.f0 = y.f0) (h1 : x.f1 = y.f1) (h2 : x.f2 = y.f2) : x = y := by cases x; cases y; simp_all
theorem cmp_zero : ∀ a b : List Tm, cmpL a b = 0 ↔ a = b
  | [], [] => by simp [cmpL]
  | [], _ :: _ => by simp [cmpL]
  | _ :: _, [] => by simp [cmpL]
  | x :: a, y :: b => by
    have h1 := cmp_zero x.f2 y.f2; have h2 := cmp_zero a b; have h3 := sg_zero x.f1 y.f1; rw [cmp_cons]
    by_cases c0 : x.f0 = y.f0
    · rw [if_pos c0]
      by_cases c1 : sg x.f1 y.f1 = 0
      · rw [if_pos c1]
        by_cases c2 : cmpL x.f2 y.f2 = 0
        · rw [if_pos c2, h2]; have hxy : x = y := tm_ext c0 (h3.1 c1) (h1.1 c2); subst hxy; simp
        · rw [if_neg c2]; exact ⟨fun h => absurd h c2, fun h => by injection h with h _; exact absurd (h1.2 (by rw [h])) c2⟩
      · rw [if_neg c1]; exact ⟨fun h => absurd h c1, fun h => by injection h with h _; exact absurd (h3.2 (by rw [h])) c1⟩
    · rw [if_neg c0]; refine ⟨fun h => by split at h <;> omega, fun h => by injection h with h _; exact absurd (by rw [h]) c0⟩
  termination_by a => SizeOf.sizeOf a
  decreasing_by all_goals (cases x; simp; omega)
theorem cmp_trans : ∀ a b c : List Tm, cmpL a b ≤ 0 → cmpL b c ≤ 0 → cmpL a c ≤ 0
  | [], _, c, _, _ => by cases c <;> simp [cmpL]
  | _ :: _, [], c, h, _ => by simp [cmpL] at h
  | _ :: _, _ :: _, [], _, h => by simp [cmpL] at h
  | x :: a, y :: b, z :: c, h1, h2 => by
    have t2 := cmp_trans x.f2 y.f2 z.f2; have ta := cmp_trans a b c; have z1 := cmp_zero x.f2 y.f2; have z2 := cmp_zero y.f2 z.f2; have z3 := cmp_zero x.f2 z.f2; have a1 := cmp_anti x.f2 y.f2; have a2 := cmp_anti y.f2 z.f2; have a3 := cmp_anti x.f2 z.f2; have s1 := sg_zero x.f1 y.f1; have s2 := sg_zero y.f1 z.f1; have s3 := sg_zero x.f1 z.f1; have b1 := sg_anti x.f1 y.f1; have b2 := sg_anti y.f1 z.f1; have u := @sg_trans x.f1 y.f1 z.f1; rw [cmp_cons] at h1 h2 ⊢
    by_cases c0 : x.f0 = y.f0
    · rw [if_pos c0] at h1
      by_cases d0 : y.f0 = z.f0
      · rw [if_pos d0] at h2; rw [if_pos (c0.trans d0)]
        by_cases c1 : sg x.f1 y.f1 = 0
        · rw [if_pos c1] at h1; have e1 := s1.1 c1
          by_cases d1 : sg y.f1 z.f1 = 0
          · rw [if_pos d1] at h2; rw [if_pos (s3.2 (e1.trans (s2.1 d1)))]
            by_cases c2 : cmpL x.f2 y.f2 = 0
            · rw [if_pos c2] at h1; have f1 := z1.1 c2
              by_cases d2 : cmpL y.f2 z.f2 = 0
              · rw [if_pos d2] at h2; rw [if_pos (z3.2 (f1.trans (z2.1 d2)))]; exact ta h1 h2
              · rw [if_neg d2] at h2; rw [f1, if_neg d2]; exact h2
            · rw [if_neg c2] at h1
              by_cases d2 : cmpL y.f2 z.f2 = 0
              · rw [← z2.1 d2, if_neg c2]; exact h1
              · rw [if_neg d2] at h2; have h3 := t2 h1 h2; rw [if_neg (fun e => by have := z3.1 e; rw [← this] at h2 a2; omega)]; exact h3
          · rw [if_neg d1] at h2; rw [e1, if_neg d1]; exact h2
        · rw [if_neg c1] at h1
          by_cases d1 : sg y.f1 z.f1 = 0
          · rw [← s2.1 d1, if_neg c1]; exact h1
          · rw [if_neg d1] at h2; have h3 := u h1 h2; rw [if_neg (fun e => by have := s3.1 e; rw [← this] at h2 b2; omega)]; exact h3
      · rw [if_neg d0] at h2; rw [if_neg (by omega), if_pos (by split at h2 <;> omega)]; omega
    · rw [if_neg c0] at h1
      by_cases d0 : y.f0 = z.f0
      · rw [if_neg (by omega), if_pos (by split at h1 <;> omega)]; omega
      · rw [if_neg d0] at h2
        have g1 : x.f0 < y.f0 := by split at h1 <;> omega
        have g2 : y.f0 < z.f0 := by split at h2 <;> omega
        rw [if_neg (by omega), if_pos (by omega)]; omega
  termination_by a => SizeOf.sizeOf a
  decreasing_by all_goals (cases x; simp; omega)
theorem cmp_begin : ∀ (k : Nat) (a : List Tm), cmpL (a.take k) a ≤ 0
  | 0, a => by cases a <;> simp [cmpL]
  | k + 1, [] => by simp [cmpL]
  | k + 1, x :: a => by
    rw [List.take_succ_cons, cmp_cons, if_pos rfl, if_pos ((sg_zero _ _).2 rfl), if_pos ((cmp_zero _ _).2 rfl)]; exact cmp_begin k a
theorem tcmp_loop {x0 x1 : List S42} (hb : x0.length ≤ 1099511627776) (hb1 : x1.length ≤ 1099511627776) : ∀ (r : List S42) (s : List S42) (n : Nat), x0.drop n = r → x1.drop n = s → x0.length = n + r.length → x1.length = n + s.length →
    (∀ x ∈ r, ∀ y ∈ s, Evt (fun k => term_Compare.f k x.f2 y.f2) (cmpL x.f2 y.f2)) →
    Evt (fun k => term_Compare.l0 k x0 x1 (mn (x0.length : Int) (x1.length : Int)) (n : Int)) (cmpL r s)
  | [], s, n, h, h', hl, hl', _ => by
    have e2 : ∀ k, term_Compare.l0 (k + 1) x0 x1 (mn (x0.length : Int) (x1.length : Int)) (n : Int) = some (if (x0.length : Int) < (x1.length : Int) then -1 else if (x0.length : Int) > (x1.length : Int) then 1 else 0) := fun k => by
      simp only [term_Compare.l0, if_neg (show ¬ (n : Int) < mn (x0.length : Int) (x1.length : Int) from fun hh => stop h ((mn_lt _ _ _).1 hh).1), cmpi_eq, Option.bind_some]
    simp only [List.length_nil] at hl; refine Evt.succ ?_; simp only [e2]; refine (Evt.const _).eq ?_
    cases s with
    | nil => simp only [List.length_nil] at hl'; rw [if_neg (by omega), if_neg (by omega)]; simp [cmpL]
    | cons y s => simp only [List.length_cons] at hl'; rw [if_pos (by omega)]; simp [cmpL]
  | x :: r, [], n, h, h', hl, hl', _ => by
    simp only [List.length_nil] at hl'; simp only [List.length_cons] at hl
    have c0 : ¬ (n : Int) < (x1.length : Int) := by omega
    refine Evt.succ ?_; simp only [term_Compare.l0, if_neg (show ¬ (n : Int) < mn (x0.length : Int) (x1.length : Int) from fun hh => c0 ((mn_lt _ _ _).1 hh).2), cmpi_eq, Option.bind_some, if_neg (show ¬ (x0.length : Int) < (x1.length : Int) by omega), if_pos (show (x0.length : Int) > (x1.length : Int) by omega)]; exact (Evt.const _).eq (by simp [cmpL])
  | x :: r, y :: s, n, h, h', hl, hl', hk => by
    obtain ⟨h1, h2, h3, h4, h5⟩ := mid h hb; obtain ⟨g1, _, g3, g4, _⟩ := mid h' hb1; simp only [List.length_cons] at hl hl'; have hv := hk x List.mem_cons_self y List.mem_cons_self
    have hu := tcmp_loop hb hb1 r s (n + 1) h4 g4 (by omega) (by omega) fun a ha b hb => hk a (List.mem_cons_of_mem _ ha) b (List.mem_cons_of_mem _ hb)
    have hmn : (n : Int) < mn (x0.length : Int) (x1.length : Int) := (mn_lt _ _ _).2 ⟨h1, g1⟩
    have htl : x.f1.toList = y.f1.toList ↔ sg x.f1 y.f1 = 0 := by
      rw [sg_zero, toList_data, toList_data]; exact ⟨ba_ext, fun h => by rw [h]⟩
    rw [cmp_cons]; refine Evt.succ ?_
    by_cases c : x.f0 = y.f0
    · rw [if_pos c]
      by_cases ct : sg x.f1 y.f1 = 0
      · rw [if_pos ct]; simp only [term_Compare.l0, if_pos hmn, if_pos h1, if_pos h2, if_pos g1, rd_mid h3, rd_mid g3, h5, if_pos c, if_pos (htl.2 ct)]; refine Evt.bind hv ?_
        by_cases cv : cmpL x.f2 y.f2 = 0
        · simp only [if_pos cv]; exact hu
        · simp only [if_neg cv]; exact Evt.const _
      · rw [if_neg ct]; simp only [term_Compare.l0, if_pos hmn, if_pos h1, if_pos h2, if_pos g1, rd_mid h3, rd_mid g3, h5, if_pos c, if_neg (fun hh => ct (htl.1 hh)), cmps_eq, sg_sign, Option.bind_some]; exact Evt.const _
    · rw [if_neg c]; simp only [term_Compare.l0, if_pos hmn, if_pos h1, if_pos h2, if_pos g1, rd_mid h3, rd_mid g3, h5, if_neg c, cmpi_eq, Option.bind_some]
      have e : (if x.f0 < y.f0 then (-1 : Int) else if x.f0 > y.f0 then 1 else 0) = if x.f0 < y.f0 then -1 else 1 := by
        split
        · rfl
        · rw [if_pos (by omega)]
      rw [e]; exact Evt.const _
theorem tcmp_ev : ∀ (n : Nat) (l m : List S42), bk42s l ≤ n → n ≤ 1099511627776 → bk42s m ≤ 1099511627776 → Evt (fun k => term_Compare.f k l m) (cmpL l m) := by
  intro n
  induction n using Nat.strongRecOn with
  | _ n ih =>
    intro l m h hn hm; have h1 := bk_len l; have h2 := bk_len m; refine Evt.succ ?_; simp only [term_Compare.f]
    exact tcmp_loop (x0 := l) (x1 := m) (by omega) (by omega) l m 0 rfl rfl (by omega) (by omega) fun x hx y hy => by
      have := bk_mem hx; have := bk_mem hy; exact ih (bk42s x.f2) (by omega) x.f2 y.f2 (Nat.le_refl _) (by omega) (by omega)
theorem tequal_ev {l m : List S42} (h : bk42s l ≤ 1099511627776) (h2 : bk42s m ≤ 1099511627776) : Evt (fun k => term_Equal.f k l m) (cmpL l m == 0) := by
  simp only [term_Equal.f]; exact Evt.bind (tcmp_ev _ l m (Nat.le_refl _) h h2) (Evt.const _)
end Go.Proofs.Ytdbjjaodkapikaa.TE
end
section
namespace Go.Proofs.Ytdbjjaodkapikaa.TE
open Go.RowKit Go.Proofs.YtdbjjaodkapikaaW.PrintWords Go.Proofs.YtdbjjaodkapikaaW.PrintLast Go.Proofs.YtdbjjaodkapikaaW.PrintMore Go.Proofs.Ytdbjjaodkapikaa.Evs
set_option linter.unusedVariables false
set_option linter.unusedSimpArgs false
theorem wrap_small {a : Int} (h1 : -4611686018427387904 ≤ a) (h2 : a ≤ 4611686018427387904) : wrap64 a = a := wrap64_id (by omega) (by omega)
theorem cnt_small : ∀ (k : Nat) (l : List Tm), SizeOf.sizeOf l ≤ k → bk42s l ≤ 1073741824 →
    (∀ left deep : Int, -1099511627776 ≤ left → left ≤ 1099511627776 → 0 ≤ deep → deep ≤ 1000 → (cnt left l deep).1 = true → 0 ≤ (cnt left l deep).2 ∧ (bk42s l : Int) + 200 * (cnt left l deep).2 ≤ 200 * left) ∧
    (∀ n deep : Int, 0 ≤ n → n ≤ 1099511627776 → 0 ≤ deep → deep ≤ 150 → (cntR n l deep).1 = true → 0 ≤ (cntR n l deep).2 ∧ (bk42s l : Int) + 200 * (cntR n l deep).2 ≤ 200 * (n + l.length)) := by
  intro k
  induction k with
  | zero => intro l hk; cases l <;> simp at hk
  | succ k ih =>
    intro l hk hb; have hlen := bk_len l
    have hR : ∀ n deep : Int, 0 ≤ n → n ≤ 1099511627776 → 0 ≤ deep → deep ≤ 150 → (cntR n l deep).1 = true → 0 ≤ (cntR n l deep).2 ∧ (bk42s l : Int) + 200 * (cntR n l deep).2 ≤ 200 * (n + l.length) := by
      cases l with
      | nil => intro n deep h0 h1 h2 h3 h; rw [cntR]; exact ⟨h0, by simp [bk42s]⟩
      | cons t r =>
        intro n deep h0 h1 h2 h3 h
        have e1 : SizeOf.sizeOf t.f2 ≤ k := by
          have h2 : SizeOf.sizeOf t.f2 < SizeOf.sizeOf t := by cases t; simp; omega
          simp at hk; omega
        have e2 : SizeOf.sizeOf r ≤ k := by
          have h2 : 0 < SizeOf.sizeOf t := by cases t; simp; omega
          simp at hk; omega
        have hbe : bk42s (t :: r) = bk42 t + bk42s r := by simp [bk42s]
        have hbt := bk42_eq t; rw [cntR] at h ⊢; have hd : wrap64 ((t.f1.size : Int) / 100) = (t.f1.size : Int) / 100 := wrap_small (by omega) (by omega); have hn : wrap64 (n - (t.f1.size : Int) / 100) = n - (t.f1.size : Int) / 100 := wrap_small (by omega) (by omega); have hdp : wrap64 (deep + 1) = deep + 1 := wrap_small (by omega) (by omega); rw [hd, hn, hdp] at h ⊢
        by_cases c : (cnt (n - (t.f1.size : Int) / 100) t.f2 (deep + 1)).1 = true
        · rw [if_pos c] at h ⊢; obtain ⟨g1, g2⟩ := (ih t.f2 e1 (by omega)).1 _ _ (by omega) (by omega) (by omega) (by omega) c; obtain ⟨g3, g4⟩ := (ih r e2 (by omega)).2 _ _ g1 (by omega) h2 h3 h; refine ⟨g3, ?_⟩; simp only [List.length_cons]
          omega
        · rw [if_neg c] at h; cases h
    refine ⟨fun left deep h0 h1 h2 h3 h => ?_, hR⟩; rw [cnt] at h ⊢; have hw : wrap64 (left - (l.length : Int)) = left - (l.length : Int) := wrap_small (by omega) (by omega); rw [hw] at h ⊢
    by_cases c : left - (l.length : Int) < 0 ∨ 150 < deep
    · rw [if_pos c] at h; cases h
    · rw [if_neg c] at h ⊢; obtain ⟨g1, g2⟩ := hR _ _ (by omega) (by omega) h2 (by omega) h; exact ⟨g1, by omega⟩
theorem cnt_all : ∀ (ls : List (List Tm)) (n : Int), 0 ≤ n → n ≤ 1000000 → (∀ l ∈ ls, bk42s l ≤ 1073741824) → (cntAll n ls).1 = true → 0 ≤ (cntAll n ls).2 ∧ ((ls.map bk42s).sum : Int) + 200 * (cntAll n ls).2 ≤ 200 * n
  | [], n, h0, h1, _, h => by rw [cntAll]; exact ⟨h0, by simp⟩
  | l :: r, n, h0, h1, hb, h => by
    rw [cntAll] at h ⊢
    by_cases c : (cnt n l 0).1 = true
    · rw [if_pos c] at h ⊢; obtain ⟨g1, g2⟩ := (cnt_small _ l (Nat.le_refl _) (hb l List.mem_cons_self)).1 n 0 (by omega) (by omega) (by omega) (by omega) c; obtain ⟨g3, g4⟩ := cnt_all r _ g1 (by omega) (fun x hx => hb x (List.mem_cons_of_mem _ hx)) h; refine ⟨g3, ?_⟩; simp only [List.map_cons, List.sum_cons, Int.natCast_add]
      omega
    · rw [if_neg c] at h; cases h
theorem mx_le (a b c : Int) : mx a b ≤ c ↔ a ≤ c ∧ b ≤ c := by unfold mx; split <;> omega
theorem mx_mx (a b c : Int) : mx (mx a b) c = mx a (mx b c) := by
  have h1 := (mx_le (mx a b) c (mx (mx a b) c)).1 (Int.le_refl _); have h2 := (mx_le a b (mx a b)).1 (Int.le_refl _); have h3 := (mx_le a (mx b c) (mx a (mx b c))).1 (Int.le_refl _); have h4 := (mx_le b c (mx b c)).1 (Int.le_refl _); have h5 := (mx_le (mx a b) c (mx a (mx b c))).2 ⟨(mx_le a b _).2 ⟨h3.1, by omega⟩, by omega⟩; have h6 := (mx_le a (mx b c) (mx (mx a b) c)).2 ⟨by omega, (mx_le b c _).2 ⟨by omega, h1.2⟩⟩
  omega
theorem dpL_from : ∀ (l : List Tm) (a : Int), 0 ≤ a → dpL a l = mx a (dpL 0 l)
  | [], a, h => by rw [dpL_nil, dpL_nil, mx_zero h]
  | x :: r, a, h => by
    have e : ∀ b : Int, dpL b (x :: r) = dpL (dpT b x) r := fun b => by simp [dpL]
    rw [e, e]; have h1 := dpT_ge x h; have h0 := dpT_ge x (Int.le_refl 0); rw [dpL_from r _ h1, dpL_from r _ h0, ← mx_mx]
    congr 1
    rw [dpT_eq, dpT_eq]
    split
    · have : ∀ y : Int, mx a (mx 0 y) = mx (mx a 0) y := fun y => (mx_mx a 0 y).symm
      rw [this, mx_zero h]
    · rw [mx_zero h]
theorem dpL_app (a b : List Tm) : dpL 0 (a ++ b) = mx (dpL 0 a) (dpL 0 b) := by
  have h : ∀ (a : List Tm) (n : Int), dpL n (a ++ b) = dpL (dpL n a) b := by
    intro a
    induction a with
    | nil => intro n; rw [dpL_nil, List.nil_append]
    | cons x r ih => intro n; rw [List.cons_append]; simp only [dpL]; exact ih _
  have h0 : ∀ (a : List Tm) (n : Int), 0 ≤ n → 0 ≤ dpL n a := by
    intro a
    induction a with
    | nil => intro n hn; rw [dpL_nil]; exact hn
    | cons x r ih => intro n hn; simp only [dpL]; exact ih _ (dpT_ge x hn)
  rw [h, dpL_from b _ (h0 a 0 (Int.le_refl 0))]
theorem putG_self : ∀ (p : List Int) (l : List Tm) (x : Tm), rA p l = some x → putG p l [x] = l
  | [], l, x, h => by rw [rA] at h; cases h
  | i :: r, l, x, h => by
    obtain ⟨h0, h1, h2⟩ := rA_cons h
    have hsplit : l.take i.toNat ++ [l[i.toNat]'h1] ++ l.drop (i.toNat + 1) = l := by
      rw [List.append_assoc, List.singleton_append, ← List.drop_eq_getElem_cons h1, List.take_append_drop]
    rw [putG]
    by_cases hr : r = []
    · rw [if_pos hr]; rw [rA, dif_pos ⟨h0, h1⟩, if_pos hr] at h
      injection h with h
      rw [← h]; exact hsplit
    · rw [if_neg hr, putG_self r _ x (h2 hr)]
      have : (⟨(rd_T42 l i).f0, (rd_T42 l i).f1, (rd_T42 l i).f2⟩ : Tm) = l[i.toNat]'h1 := by rw [rd_in h1]; cases l[i.toNat]'h1; rfl
      rw [this]; exact hsplit
theorem rA_putG : ∀ (p : List Int) (l : List Tm) (x y : Tm), rA p l = some x → rA p (putG p l [y]) = some y
  | [], l, x, y, h => by rw [rA] at h; cases h
  | i :: r, l, x, y, h => by
    obtain ⟨h0, h1, h2⟩ := rA_cons h
    have hget : ∀ z : Tm, ∃ hl : i.toNat < ((l.take i.toNat ++ [z]) ++ l.drop (i.toNat + 1)).length, ((l.take i.toNat ++ [z]) ++ l.drop (i.toNat + 1))[i.toNat]'hl = z := fun z => by
      have hl : i.toNat < ((l.take i.toNat ++ [z]) ++ l.drop (i.toNat + 1)).length := by simp; omega
      refine ⟨hl, ?_⟩; rw [List.getElem_append_left (by simp; omega), List.getElem_append_right (by simp; omega)]; simp
    rw [putG]
    by_cases hr : r = []
    · rw [if_pos hr]; obtain ⟨hl, he⟩ := hget y; rw [rA, dif_pos ⟨h0, hl⟩, if_pos hr, he]
    · rw [if_neg hr]; obtain ⟨hl, he⟩ := hget (⟨(rd_T42 l i).f0, (rd_T42 l i).f1, putG r (rd_T42 l i).f2 [y]⟩ : Tm); rw [rA, dif_pos ⟨h0, hl⟩, if_neg hr, he]; exact rA_putG r _ x y (h2 hr)
end Go.Proofs.Ytdbjjaodkapikaa.TE
end
