/- term.Put, walked. -/
import Derived.Test.YtdbjjaodkapikaaITEPl3
import Derived.Test.YtdbjjaodkapikaaITEx16
import Derived.Test.YtdbjjaodkapikaaITEParts2
section
namespace Go.Proofs.Ytdbjjaodkapikaa.TE
open Go.RowKit Go.Shelf Go.Proofs.YtdbjjaodkapikaaW.PrintWords Go.Proofs.YtdbjjaodkapikaaW.PrintLast Go.Proofs.YtdbjjaodkapikaaW.PrintMore Go.Proofs.Ytdbjjaodkapikaa.Evs
set_option linter.unusedVariables false
set_option linter.unusedSimpArgs false
def putG : List Int → List Tm → List Tm → List Tm
  | [], l, _ => l
  | i :: r, l, y => if r = [] then (l.take i.toNat ++ y) ++ l.drop (i.toNat + 1) else (l.take i.toNat ++ [(⟨(rd_T42 l i).f0, (rd_T42 l i).f1, putG r (rd_T42 l i).f2 y⟩ : Tm)]) ++ l.drop (i.toNat + 1)
def putR (p : List Int) (l y : List Tm) : List Tm × Bool :=
  match rA p l with
  | none => ([], false)
  | some _ => (putG p l y, true)
theorem rA_cons {i : Int} {r : List Int} {l : List Tm} {x : Tm} (h : rA (i :: r) l = some x) : 0 ≤ i ∧ i.toNat < l.length ∧ (r ≠ [] → rA r (rd_T42 l i).f2 = some x) := by
  rw [rA] at h
  by_cases c : 0 ≤ i ∧ i.toNat < l.length
  · rw [dif_pos c] at h; refine ⟨c.1, c.2, fun hr => ?_⟩; rw [if_neg hr] at h
    have : rd_T42 l i = l[i.toNat]'c.2 := by simp [rd_T42, List.getD_eq_getElem?_getD, List.getElem?_eq_getElem c.2]
    rw [this]; exact h
  · rw [dif_neg c] at h; cases h
theorem bks_app : ∀ a b : List Tm, bk42s (a ++ b) = bk42s a + bk42s b
  | [], b => by simp [bk42s]
  | x :: r, b => by have := bks_app r b; simp only [List.cons_append, bk42s, this]; omega
theorem bks_split (l : List Tm) (i : Nat) (h : i < l.length) : bk42s l = bk42s (l.take i) + bk42 (l[i]'h) + bk42s (l.drop (i + 1)) := by
  have h1 : l = l.take i ++ l[i] :: l.drop (i + 1) := by rw [← List.drop_eq_getElem_cons h, List.take_append_drop]
  have h2 := congrArg bk42s h1; rw [bks_app] at h2; simp only [bk42s] at h2
  omega
theorem rd_in {l : List Tm} {i : Int} (h0 : i.toNat < l.length) : rd_T42 l i = l[i.toNat]'h0 := by simp [rd_T42, List.getD_eq_getElem?_getD, List.getElem?_eq_getElem h0]
theorem putG_bk : ∀ (p : List Int) (l y : List Tm) (x : Tm), rA p l = some x → bk42s (putG p l y) ≤ bk42s l + bk42s y
  | [], l, y, x, h => by simp [putG]
  | i :: r, l, y, x, h => by
    obtain ⟨h0, h1, h2⟩ := rA_cons h; have hs := bks_split l i.toNat h1; rw [putG]
    by_cases hr : r = []
    · rw [if_pos hr, bks_app, bks_app]; omega
    · have ih := putG_bk r (rd_T42 l i).f2 y x (h2 hr); rw [if_neg hr, bks_app, bks_app]
      have h3 : ∀ z : Tm, bk42s [z] = bk42 z := fun z => by simp [bk42s]
      rw [h3, bk42_eq]; rw [rd_in h1] at ih ⊢; have h4 := bk42_eq (l[i.toNat]'h1); simp only
      omega
theorem join_some {a b : List Tm} (h : a.length + b.length ≤ 2097152) : chiasmusref01_Join.f a b = some (a ++ b) := by
  unfold chiasmusref01_Join.f; simp only [Option.bind_some, List.length_nil, List.nil_append]; rw [if_pos (by omega), if_pos (by omega)]
theorem info_int' : (Try.prog.info? 3).map (fun i => (i.zero, i.size, i.bytes)) = some (some (.int .i64 0), 1, 8) := by kernel_rfl
set_option maxRecDepth 100000 in
set_option maxHeartbeats 4000000 in
theorem rPut.calls : ∀ (p : List Int) (A : Option Addr) (c : Nat) (l : List Tm) (P : Option Addr) (d : Nat) (B : Option Addr) (b : Nat) (y : List Tm) (w : World) (hC : Kd.C k42 w A l.length l) (hc : l.length ≤ c) (hP : Kd.C (Kd.int .i64) w P p.length p) (hd : p.length ≤ d) (hY : Kd.C k42 w B y.length y) (hy : y.length ≤ b) (hpl : p.length ≤ 1048576) (hb : bk42s l + bk42s y ≤ 1048576),
    Calls Try.prog 34 #[.slice A l.length c, .slice P p.length d, .slice B y.length b] w fun e w' => ∃ A' c', e = .returned (.tuple #[.slice A' (putR p l y).1.length c', .bool (putR p l y).2]) ∧ Kd.N k42 42 w' w.heap.size (fun k => w.heap.size ≤ k) (.slice A' (putR p l y).1.length c') (putR p l y).1 ∧ Below w.heap.size w w' := by
  intro p
  induction p with
  | nil =>
    intro A c l P d B b y w hC hc hP hd hY hy hpl hb; have hat := rAt.calls [] A c l P d w hC hc hP hd hpl (by omega)
    have hr0 : rAR [] l = (z42, false) := by unfold rAR; rw [rA]
    rw [hr0] at hat; have HR : Aside0 (putR [] l y = ([], false)) := ⟨by unfold putR; rw [rA]⟩; have HAT := Aside0.mk hat; clear hC hc hP hd hY hy hpl hb hat hr0
    go_enter Try.func34, Try.ntmps34
    go_wp2_with fail
    refine HAT.out.mono ?_; rintro e w1 ⟨A', c', rfl, hl', hC', hb1⟩; have HB2 := Aside0.mk (q14 hb1 ((Below.refl _ _).alloc (Nat.le_refl _) (.cells #[.int .i64 z42.f0, .string z42.f1, .slice A' z42.f2.length c'] 42))); clear hl' hC' hb1
    go_wp2_with fail
    go_ret2
    rw [HR.out]; exact ⟨none, 0, rfl, Kd.N_nil _ _ _ _ _, HB2.out⟩
  | cons i r ih =>
    intro A c l P d B b y w hC hc hP hd hY hy hpl hb; have hat := rAt.calls (i :: r) A c l P d w hC hc hP hd hpl (by omega); obtain ⟨m, hm⟩ : ∃ m, m = (i :: r).length := ⟨_, rfl⟩
    have hm0 : 0 < m := by rw [hm]; simp
    rw [← hm] at hat hd hpl ⊢; have HAT := Aside0.mk hat; have HC := Aside0.mk hC; have HCC := Aside0.mk hc; have HP := Aside0.mk hP; have HD := Aside0.mk hd; have HY := Aside0.mk hY; have HYY := Aside0.mk hy; have HM := Aside0.mk hm; have HPL := Aside0.mk hpl; have HBK := Aside0.mk hb; have IH := Aside0.mk ih; clear hC hc hP hd hY hy hpl hb ih hm hat
    go_enter Try.func34, Try.ntmps34
    go_wp2_with fail
    refine HAT.out.mono ?_; rintro e w1 ⟨A', c', rfl, hl', hC', hb1⟩; clear hl' hC'; obtain ⟨q0, hq0⟩ : ∃ q, q = (rAR (i :: r) l).1.f0 := ⟨_, rfl⟩; obtain ⟨q1, hq1⟩ : ∃ q, q = (rAR (i :: r) l).1.f1 := ⟨_, rfl⟩; obtain ⟨q2, hq2⟩ : ∃ q, q = (rAR (i :: r) l).1.f2.length := ⟨_, rfl⟩; obtain ⟨rb, hrb⟩ : ∃ q, q = (rAR (i :: r) l).2 := ⟨_, rfl⟩; rw [← hq0, ← hq1, ← hq2, ← hrb]; clear hq0 hq1 hq2; have hb2 : Below w1.heap.size w1 (w1.alloc (.cells #[.int .i64 q0, .string q1, .slice A' q2 c'] 42)) := (Below.refl _ _).alloc (Nat.le_refl _) _; obtain ⟨W2, hW2⟩ : ∃ W2, w1.alloc (.cells #[.int .i64 q0, .string q1, .slice A' q2 c'] 42) = W2 := ⟨_, rfl⟩; rw [hW2] at hb2; have HW2 := Aside0.mk hW2; have HB2 := Aside0.mk (q14 hb1 hb2); clear hb1 hb2 hW2
    rcases hra : rA (i :: r) l with _ | x
    · have hrf : rb = false := by rw [hrb]; unfold rAR; rw [hra]
      have HR : Aside0 (putR (i :: r) l y = ([], false)) := ⟨by unfold putR; rw [hra]⟩; subst hrf; clear hrb hra
      go_upto_region 2 with fail
      rw [HW2.out]
      go_wp2_with fail
      go_ret2
      rw [HR.out]; exact ⟨none, 0, rfl, Kd.N_nil _ _ _ _ _, HB2.out⟩
    · have hrf : rb = true := by rw [hrb]; unfold rAR; rw [hra]
      have HR : Aside0 (putR (i :: r) l y = (putG (i :: r) l y, true)) := ⟨by unfold putR; rw [hra]⟩; have HRA := Aside0.mk hra; subst hrf; obtain ⟨hi0, hi1, hi2⟩ := rA_cons hra; have HKID := Aside0.mk hi2; obtain ⟨pad, rfl, hpc⟩ := Kd.at_int HP.out (0 : Int) (by omega) (by simp only [List.length_cons]; omega); rw [show pad.add (Int.toNat 0) = pad from by simp [Addr.add]] at hpc; rw [show rd (i :: r) (0 : Int) = i from by simp [rd]] at hpc; replace hpc := (HB2.out.cell (World.block_lt_of_cell? w _ hpc)).trans hpc
      have m1 : (0 : Int) < (m : Int) := by omega
      have hbk := HBK.out; have hlen := bk_len l
      have hw1 : IntKind.i64.wrap (i + 1) = i + 1 := by rw [i64_w]; rw [wrap64_id (by omega) (by omega)]
      have hi3 : i < (l.length : Int) := by omega
      have hi4 : i + 1 ≤ (l.length : Int) := by omega
      obtain ⟨i0, hinf, hz0, hsz, hz2⟩ := info_parts info_term'; obtain ⟨la, hla⟩ : ∃ la, la = l.take i.toNat := ⟨_, rfl⟩; obtain ⟨lb, hlb⟩ : ∃ lb, lb = l.drop (i.toNat + 1) := ⟨_, rfl⟩; have hct := cut_to (P := Try.prog) 22 42 .i64 Try.underlying22 hinf A l.length c i hi0 (by omega) HCC.out; have hcf := cut_from (P := Try.prog) 22 42 .i64 Try.underlying22 hinf 3 hsz A l.length c (i + 1) (by omega) hi4
      have ha1 : la.length = i.toNat := by rw [hla, List.length_take]; omega
      have hb1 : lb.length = l.length - (i + 1).toNat := by rw [hlb, List.length_drop]; omega
      have hCa : Kd.C k42 w A la.length la := by rw [hla]; exact Kd.C_take HC.out (by omega)
      have hCb := Kd.C_drop (c := c) HC.out (m := (i + 1).toNat) (by omega) HCC.out; rw [show l.drop (i + 1).toNat = lb from by rw [hlb]; congr 1; omega] at hCb; obtain ⟨A3, hA3⟩ : ∃ A3, A3 = (if c = (i + 1).toNat then A else A.map (·.add ((i + 1).toNat * 3))) := ⟨_, rfl⟩
      replace hCb : Kd.C k42 w A3 lb.length lb := by rw [hA3]; exact hCb
      obtain ⟨c3, hc3⟩ : ∃ c3, c3 = c - (i + 1).toNat := ⟨_, rfl⟩; rw [← ha1] at hct; rw [← hb1, ← hA3, ← hc3] at hcf
      have hbka : bk42s la + bk42s lb + bk42 (rd_T42 l i) = bk42s l := by rw [hla, hlb, rd_in hi1, bks_split l i.toNat hi1]; omega
      obtain ⟨k1, hk1⟩ := (rcopy_ev _ la (Nat.le_refl _) (by omega)).get; obtain ⟨k2, hk2⟩ := (rcopy_ev _ lb (Nat.le_refl _) (by omega)).get; have HK1 := Aside0.mk hk1; have HK2 := Aside0.mk hk2; have HCa := Aside0.mk hCa; have HCb := Aside0.mk hCb; have HLA := Aside0.mk hla; have HLB := Aside0.mk hlb; have HA1 : Aside0 (la.length ≤ c ∧ lb.length ≤ c3) := ⟨by have := HCC.out; omega, by have := HCC.out; omega⟩; have HBKA := Aside0.mk hbka; have HI1 := Aside0.mk hi1; have HLEN := Aside0.mk hlen; clear hrb hra hi2 hbk hlen ha1 hb1 hCa hCb hA3 hc3 hla hlb hbka hk1 hk2 hi1 hinf hz0 hsz hz2
      go_upto_region 2 with fail
      rw [HW2.out]
      go_upto_region 5 with fail
      go_region_with (first
        | (go_at_call 72; (with_reducible refine (chiasmusref01_Copy.calls k1 A c la la _ (Kd.C_below HCa.out (q24 HB2.out)) HA1.out.1 HK1.out).mono ?_); rintro e w3 ⟨va, rfl, hRa, hb3⟩; have HB3 := Aside0.mk (q14 (q24 HB2.out) hb3); have HNa := Aside0.mk (Kd.N_lower (Kd.R_N (Kd.R_mono (Kd.R_bound hRa) (fun k hk => show w.heap.size ≤ k from Nat.le_trans (q24 HB2.out).size hk.2.1))) (q24 HB2.out).size); clear hRa hb3)
        | (go_at_call 72; (with_reducible refine (chiasmusref01_Copy.calls k2 A3 c3 lb lb _ (Kd.C_below HCb.out HB3.out) HA1.out.2 HK2.out).mono ?_); rintro e w4 ⟨vb, rfl, hRb, hb4⟩; have HB4 := Aside0.mk (q14 HB3.out hb4); have HRb3 := Aside0.mk (Kd.R_V (base' := w.heap.size) (Kd.R_mono (Kd.R_bound hRb) (fun k hk => show w3.heap.size ≤ k from hk.2.1))); have HRb := Aside0.mk (Kd.V_mono HRb3.out (fun k hk => show w.heap.size ≤ k from Nat.le_trans HB3.out.size hk)); have HNa4 := Aside0.mk (Kd.N_below HNa.out hb4); have HRa4 := Aside0.mk (Kd.N_V (base' := w.heap.size) HNa4.out); have HALT := Aside0.mk (Kd.N_lt HNa.out); have HB34 := Aside0.mk hb4.size; clear hRb hb4))
      obtain ⟨Aa, ca, rfl⟩ := Kd.V_slice HRa4.out; obtain ⟨Ab, cb, rfl⟩ := Kd.V_slice HRb.out; obtain ⟨l7, hl7⟩ : ∃ l7, l7 = putG (i :: r) l y := ⟨_, rfl⟩; have HL7 := Aside0.mk hl7; have HLN : Aside0 (la.length + lb.length + 1 ≤ 1048576 ∧ bk42s l + bk42s y ≤ 1048576) := ⟨by have h1 := bk_len la; have h2 := bk_len lb; have h3 := bk42_eq (rd_T42 l i); have := HBKA.out; have := HBK.out; omega, HBK.out⟩; clear hl7
      rcases r with _ | ⟨i', r'⟩
      · have e3 : (((m : Nat) : Int) == 1) = true := by have := HM.out; simp at this; simp [this]
        obtain ⟨k3, hk3⟩ := (rcopy_ev _ y (Nat.le_refl _) (by have := HBK.out; omega)).get; have HK3 := Aside0.mk hk3; obtain ⟨l6, hl6⟩ : ∃ l6, l6 = la ++ y := ⟨_, rfl⟩
        have h7 : l7 = l6 ++ lb := by rw [HL7.out, putG, if_pos rfl, hl6, HLA.out, HLB.out]
        have hj6 : chiasmusref01_Join.f la y = some l6 := by rw [hl6]; exact join_some (by have := HLN.out; have := bk_len y; omega)
        have hj7 : chiasmusref01_Join.f l6 lb = some l7 := by rw [h7]; exact join_some (by have := HLN.out; have := bk_len y; rw [hl6, List.length_append]; omega)
        have HJ6 := Aside0.mk hj6; have HJ7 := Aside0.mk hj7; clear hk3 hl6 h7 hj6 hj7
        go_wp2_with fail
        refine (chiasmusref01_Copy.calls k3 B b y y w4 (Kd.C_below HY.out HB4.out) HYY.out HK3.out).mono ?_; rintro e w5 ⟨vy, rfl, hRy, hb5⟩; have HB5 := Aside0.mk (q14 HB4.out hb5); have HRy := Aside0.mk (Kd.R_V (base' := w.heap.size) (Kd.R_mono (Kd.R_bound hRy) (fun k hk => show w.heap.size ≤ k from Nat.le_trans HB4.out.size hk.2.1))); have HRa5 := Aside0.mk (Kd.V_below HRa4.out hb5); have HRb5 := Aside0.mk (Kd.V_below HRb.out hb5); clear hRy hb5; obtain ⟨Ay, cy, rfl⟩ := Kd.V_slice HRy.out
        go_wp2_with fail
        refine (chiasmusref01_Join.calls (fun k => w.heap.size ≤ k) Aa ca la (fun k => w.heap.size ≤ k) Ay cy y l6 w5 HRa5.out HRy.out HJ6.out).mono ?_; rintro e w6 ⟨v6, rfl, hN6, hb6⟩; have HB6 := Aside0.mk (q14 HB5.out hb6); have HR6 := Aside0.mk (Kd.N_V (base' := w.heap.size) (Kd.N_mono hN6 (fun k hk => show w.heap.size ≤ k from hk.elim (fun h => h.elim id id) (fun h => Nat.le_trans HB5.out.size h)))); have HRb6 := Aside0.mk (Kd.V_below HRb5.out hb6); clear hN6 hb6; obtain ⟨A6, c6, rfl⟩ := Kd.V_slice HR6.out
        go_wp2_with fail
        refine (chiasmusref01_Join.calls (fun k => w.heap.size ≤ k) A6 c6 l6 (fun k => w.heap.size ≤ k) Ab cb lb l7 w6 HR6.out HRb6.out HJ7.out).mono ?_; rintro e w7 ⟨v7, rfl, hN7, hb7⟩; have HB7 := Aside0.mk (q14 HB6.out hb7); have HN7 := Aside0.mk (Kd.N_lower (Kd.N_mono hN7 (fun k hk => show w.heap.size ≤ k from hk.elim (fun h => h.elim id id) (fun h => Nat.le_trans HB6.out.size h))) HB6.out.size); clear hN7 hb7; obtain ⟨A7, c7, rfl⟩ := Kd.N_slice HN7.out
        go_wp2_with fail
        go_ret2
        rw [HR.out, ← HL7.out]; exact ⟨A7, c7, rfl, HN7.out, HB7.out⟩
      · have e3 : (((m : Nat) : Int) == 1) = false := by have := HM.out; simp at this; simp; omega
        obtain ⟨ad, Ak, ck, rfl, hx0, hx1, hx2, hl2, hr2⟩ := at_T42 HC.out i hi0 hi3; obtain ⟨z, hz⟩ : ∃ z, z = rd_T42 l i := ⟨_, rfl⟩; rw [← hz] at hx0 hx1 hx2 hl2 hr2; replace hx0 := (HB4.out.cell (World.block_lt_of_cell? w _ hx0)).trans hx0; replace hx1 := (HB4.out.cell (World.block_lt_of_cell? w _ hx1)).trans hx1; replace hx2 := (HB4.out.cell (World.block_lt_of_cell? w _ hx2)).trans hx2; obtain ⟨lk, hlk⟩ : ∃ lk, lk = putG (i' :: r') z.f2 y := ⟨_, rfl⟩
        have hkr : rA (i' :: r') z.f2 = some x := by rw [hz]; exact HKID.out (by simp)
        have hpr : putR (i' :: r') z.f2 y = (lk, true) := by unfold putR; rw [hkr, hlk]
        have hlkb : bk42s lk ≤ bk42s z.f2 + bk42s y := by rw [hlk]; exact putG_bk _ _ _ _ hkr
        have hzb : bk42 z ≤ bk42s l := by rw [hz]; have := HBKA.out; omega
        have hze := bk42_eq z; have hD1 : m ≤ d ∧ m - 1 = (i' :: r').length := ⟨HD.out, by have := HM.out; simp at this ⊢; omega⟩; have HLKB : Aside0 (bk42s lk ≤ 1048576 ∧ z.f1.size ≤ 1048576) := ⟨by have := HBK.out; omega, by have := HBK.out; omega⟩
        have HIH : Aside0 (∀ (P : Option Addr) (n d : Nat) (W : World), n = (i' :: r').length → Kd.C k42 W Ak z.f2.length z.f2 → Kd.C (Kd.int .i64) W P n (i' :: r') → n ≤ d → Kd.C k42 W B y.length y →
            Calls Try.prog 34 #[.slice Ak z.f2.length ck, .slice P n d, .slice B y.length b] W fun e w' => ∃ A' c', e = .returned (.tuple #[.slice A' lk.length c', .bool true]) ∧ Kd.N k42 42 w' W.heap.size (fun k => W.heap.size ≤ k) (.slice A' lk.length c') lk ∧ Below W.heap.size W w') :=
          ⟨fun P n d W hn h1 h2 h3 h4 => by
            subst hn; have h := IH.out Ak ck z.f2 P d B b y W h1 hl2 h2 h3 h4 HYY.out (by have := HPL.out; omega) (by have := HBK.out; omega); rw [hpr] at h
            exact h⟩
        have HT : Aside0 (Kd.C (Kd.int .i64) w (some (pad.add 1)) (m - 1) (i' :: r')) := ⟨by
          have h := Kd.C_drop (c := d) HP.out (m := 1) (by simp) (by rw [← HM.out]; exact HD.out); rw [if_neg (by have := hD1.1; have := hD1.2; simp at this; omega)] at h
          rw [hD1.2]; exact h⟩
        obtain ⟨i1, hinf1, hz01, hsz1, hz21⟩ := info_parts info_int'; have hcp := cut_from (P := Try.prog) 40 3 .i64 Try.underlying40 hinf1 1 hsz1 (some pad) m d (1 : Int) (by omega) (by omega); have hmd : m ≤ d := HD.out
        have hm1 : 1 < m := by have := hD1.2; simp at this; omega
        rw [if_neg (by simp; omega)] at hcp; obtain ⟨P1, hP1⟩ : ∃ P1, P1 = (some pad : Option Addr).map (·.add ((1 : Int).toNat * 1)) := ⟨_, rfl⟩; obtain ⟨m', hm'⟩ : ∃ m', m' = m - (1 : Int).toNat := ⟨_, rfl⟩; obtain ⟨d', hd'⟩ : ∃ d', d' = d - (1 : Int).toNat := ⟨_, rfl⟩; rw [← hP1, ← hm', ← hd'] at hcp
        have hm'' : m' = m - 1 := by rw [hm']; rfl
        have hd'' : d' = d - 1 := by rw [hd']; rfl
        have HT' : Aside0 (Kd.C (Kd.int .i64) w P1 m' (i' :: r') ∧ m' = (i' :: r').length ∧ m' ≤ d') := ⟨by rw [hP1, hm'']; exact HT.out, by rw [hm'']; exact hD1.2, by omega⟩; clear hP1 hm' hd' hm'' hd'' hmd hm1 hinf1 hz01 hsz1 hz21; obtain ⟨l6, hl6⟩ : ∃ l6, l6 = la ++ [(⟨z.f0, z.f1, lk⟩ : Tm)] := ⟨_, rfl⟩
        have h7 : l7 = l6 ++ lb := by rw [HL7.out, putG, if_neg (by simp), hl6, HLA.out, HLB.out, hlk, hz]
        have hj7 : chiasmusref01_Join.f l6 lb = some l7 := by rw [h7]; exact join_some (by have := HLN.out; rw [hl6, List.length_append]; simp; omega)
        have HJ7 := Aside0.mk hj7; have HL6 := Aside0.mk hl6; have HD1 := Aside0.mk hD1; have HR2 := Aside0.mk hr2; clear hz hlk hkr hpr hlkb hzb hze hD1 hl2 hr2 hl6 h7 hj7
        go_upto_region 8 with fail
        go_region_held3 (fun W' => W'.cell? ⟨(ad.add (i.toNat * 3)).block, (ad.add (i.toNat * 3)).off + 2, none⟩ = some (.slice Ak z.f2.length ck)) (first | exact y2 | exact hx2 | assumption) ((go_at_call 34; refine (HIH.out _ m' d' _ HT'.out.2.1 (Kd.C_below HR2.out (q24 HB4.out)) (Kd.C_below HT'.out.1 (q24 HB4.out)) HT'.out.2.2 (Kd.C_below HY.out (q24 HB4.out))).mono ?_; rintro e w5 ⟨A5, c5, rfl, hN5, hb5⟩; have HN5 := Aside0.mk hN5; have HB5 := Aside0.mk (q14 (q24 HB4.out) hb5); have HNa5 := Aside0.mk (Kd.N_below (Kd.N_drew HNa4.out) hb5); have HRb5 := Aside0.mk (Kd.V_below (Kd.V_drew HRb3.out) hb5); have y0 := (hb5.cell (World.block_lt_of_cell? _ _ hx0)).trans hx0; have y1 := (hb5.cell (World.block_lt_of_cell? _ _ hx1)).trans hx1; have y2 := (hb5.cell (World.block_lt_of_cell? _ _ hx2)).trans hx2; have HS5 := Aside0.mk hb5.size; clear hN5 hb5))
        go_upto_region 9 with fail
        have n0 := World.new_ne w5 _ y0; have n1 := World.new_ne w5 _ y1
        go_region_held3 (fun W' => W'.cell? (ad.add (i.toNat * 3)) = some (.int .i64 z.f0) ∧ W'.cell? ⟨(ad.add (i.toNat * 3)).block, (ad.add (i.toNat * 3)).off + 1, none⟩ = some (.string z.f1)) (first | exact ⟨y0, y1⟩ | go_keep) (fail)
        have hb9 : Below w5.heap.size w5 (w5.alloc (.cells #[.int .i64 z.f0, .string z.f1, .slice A5 lk.length c5] 42)).drew := q24 ((Below.refl _ _).alloc (Nat.le_refl _) _); have hn9 : ((w5.alloc (.cells #[.int .i64 z.f0, .string z.f1, .slice A5 lk.length c5] 42)).drew).heap[w5.heap.size]? = some (.cells #[.int .i64 z.f0, .string z.f1, .slice A5 lk.length c5] 42 (0, 0)) := World.alloc_heap_new w5 _; obtain ⟨W9, hW9⟩ : ∃ W9, (w5.alloc (.cells #[.int .i64 z.f0, .string z.f1, .slice A5 lk.length c5] 42)).drew = W9 := ⟨_, rfl⟩; rw [hW9] at hb9 hn9; have HW9 := Aside0.mk hW9; have HB9 := Aside0.mk (q14 HB5.out hb9); have v0 : W9.cell? ⟨w5.heap.size, 0, none⟩ = some (.int .i64 z.f0) := (q5 hn9 0).trans rfl; have v1 : W9.cell? ⟨w5.heap.size, 1, none⟩ = some (.string z.f1) := (q5 hn9 1).trans rfl; have v2 : W9.cell? ⟨w5.heap.size, 2, none⟩ = some (.slice A5 lk.length c5) := (q5 hn9 2).trans rfl; have HNa9 := Aside0.mk (Kd.N_below HNa5.out hb9); have HRb9 := Aside0.mk (Kd.V_below HRb5.out hb9); have HFK := Aside0.mk (k42_mkF W9 (fun k => w4.drew.heap.size ≤ k) (⟨z.f0, z.f1, lk⟩ : Tm) (Kd.N_reads' HN5.out).2.1 (Kd.F_below (Kd.N_F HN5.out) hb9)); have HOKP : Aside0 (∀ k, w4.drew.heap.size ≤ k → w.heap.size ≤ k ∧ some k ≠ (Value.slice Aa la.length ca).ownBlock) := ⟨fun k hk => ⟨Nat.le_trans HB4.out.size hk, fun he => by have h1 := HALT.out k he.symm; have h2 := HB34.out; have h3 : w4.heap.size ≤ k := hk; omega⟩⟩; have HOKB : Aside0 (∀ k, w3.heap.size ≤ k → some k ≠ (Value.slice Aa la.length ca).ownBlock) := ⟨fun k hk he => by have h1 := HALT.out k he.symm; omega⟩; clear hb9 hn9 hW9 y0 y1 y2 n0 n1 hx0 hx1 hx2
        go_upto_region 10 with fail
        rw [HW9.out]
        go_wp2_with ((with_reducible refine gate_builtin (b := .append) (xs := #[.tmp 69, .tmp 71]) rfl ?_); at_builtin; refine Kd.N_append k42 (w0 := w) w.heap.size rfl (.tmp 69) (.tmp 71) 22 42 (.agg #[.int .i64 0, .string ⟨#[]⟩, .slice none 0 0]) 48 rfl Try.underlying22 info_term' rfl (by decide) (by decide) (.slice Aa la.length ca) la (⟨z.f0, z.f1, lk⟩ : Tm) [.int .i64 z.f0, .string z.f1, .slice A5 lk.length c5] (fun k => w.heap.size ≤ k) (fun k => w4.drew.heap.size ≤ k) rfl rfl HFK.out HOKP.out (fun k hk => Nat.le_trans HB9.out.size hk) HNa9.out HB9.out HB9.out.size (by have := HLN.out.1; omega) ?_; intro v10 w10 ho hb10 hg hat; have HO := Aside0.mk ho; have HB10 := Aside0.mk hb10; have HRb10 := Aside0.mk (Kd.V_grown HRb9.out hg HOKB.out); clear ho hb10 hg hat)
        have HO6 : Aside0 (Kd.N k42 42 w10 w.heap.size (fun k => w.heap.size ≤ k) v10 l6) := ⟨by rw [HL6.out]; exact HO.out⟩; clear HO; obtain ⟨A10, c10, rfl⟩ := Kd.N_slice HO6.out; refine (chiasmusref01_Join.calls (fun k => w.heap.size ≤ k) A10 c10 l6 (fun k => w3.heap.size ≤ k) Ab cb lb l7 w10 (Kd.N_V (base' := w.heap.size) HO6.out) HRb10.out HJ7.out).mono ?_; rintro e w11 ⟨v11, rfl, hN11, hb11⟩; have HB11 := Aside0.mk (q14 HB10.out hb11); have HN11 := Aside0.mk (Kd.N_lower (Kd.N_mono hN11 (fun k hk => show w.heap.size ≤ k from hk.elim (fun h => h.elim id (fun h => Nat.le_trans HB3.out.size h)) (fun h => Nat.le_trans HB10.out.size h))) HB10.out.size); clear hN11 hb11; obtain ⟨A11, c11, rfl⟩ := Kd.N_slice HN11.out
        go_wp2_with fail
        go_ret2
        rw [HR.out, ← HL7.out]; exact ⟨A11, c11, rfl, HN11.out, HB11.out⟩
end Go.Proofs.Ytdbjjaodkapikaa.TE
end
section
namespace Go.Proofs.Ytdbjjaodkapikaa.TE
open Go.RowKit Go.Shelf Go.Proofs.YtdbjjaodkapikaaW.PrintWords Go.Proofs.YtdbjjaodkapikaaW.PrintLast Go.Proofs.YtdbjjaodkapikaaW.PrintMore Go.Proofs.Ytdbjjaodkapikaa.Evs
set_option linter.unusedVariables false
set_option linter.unusedSimpArgs false
def sub : List Int → List Tm → List Tm
  | [], l => l
  | i :: r, l => sub r (rd_T42 l i).f2
def plug : List Int → List Tm → List Tm → List Tm
  | [], _, y => y
  | i :: r, l, y => l.set i.toNat ⟨(rd_T42 l i).f0, (rd_T42 l i).f1, plug r (rd_T42 l i).f2 y⟩
theorem sub_snoc : ∀ (q : List Int) (i : Int) (l : List Tm), sub (q ++ [i]) l = (rd_T42 (sub q l) i).f2
  | [], i, l => rfl
  | j :: q, i, l => sub_snoc q i _
theorem plug_snoc : ∀ (q : List Int) (i : Int) (l y : List Tm), plug (q ++ [i]) l y = plug q l ((sub q l).set i.toNat ⟨(rd_T42 (sub q l) i).f0, (rd_T42 (sub q l) i).f1, y⟩)
  | [], i, l, y => rfl
  | j :: q, i, l, y => by
    rw [List.cons_append, plug, plug_snoc q i]; rfl
def Leads : List Int → List Tm → Prop
  | [], _ => True
  | i :: r, l => 0 ≤ i ∧ i.toNat < l.length ∧ Leads r (rd_T42 l i).f2
theorem leads_of : ∀ (p : List Int) (l : List Tm) (x : Tm), rA p l = some x → Leads p l
  | [], _, _, _ => trivial
  | i :: r, l, x, h => by
    obtain ⟨h0, h1, h2⟩ := rA_cons h; refine ⟨h0, h1, ?_⟩
    by_cases hr : r = []
    · subst hr; trivial
    · exact leads_of r _ x (h2 hr)
theorem leads_app : ∀ (q : List Int) (i : Int) (r : List Int) (l : List Tm), Leads (q ++ i :: r) l → 0 ≤ i ∧ i.toNat < (sub q l).length
  | [], i, r, l, h => ⟨h.1, h.2.1⟩
  | j :: q, i, r, l, h => leads_app q i r _ h.2.2
theorem leads_pre : ∀ (q r : List Int) (l : List Tm), Leads (q ++ r) l → Leads q l
  | [], _, _, _ => trivial
  | j :: q, r, l, h => ⟨h.1, h.2.1, leads_pre q r _ h.2.2⟩
theorem leads_at {p : List Int} {l : List Tm} (h : Leads p l) (k : Nat) (hk : k < p.length) : 0 ≤ p[k] ∧ p[k].toNat < (sub (p.take k) l).length ∧ Leads (p.take k) l ∧ p.take (k + 1) = p.take k ++ [p[k]] := by
  have e : p = p.take k ++ p[k] :: p.drop (k + 1) := by rw [← List.drop_eq_getElem_cons hk, List.take_append_drop]
  have h' : Leads (p.take k ++ p[k] :: p.drop (k + 1)) l := by rw [← e]; exact h
  obtain ⟨h1, h2⟩ := leads_app _ _ _ _ h'; exact ⟨h1, h2, leads_pre _ _ _ h', by rw [List.take_succ_eq_append_getElem hk]⟩
theorem foc_cell {w1 : World} {g off : Nat} {u : Value} (h : ∃ cs t, w1.heap[g]? = some (.cells cs t (0, 0)) ∧ cs[off]? = some u) : w1.cell? ⟨g, off, none⟩ = some u ∧ w1.frozen? ⟨g, off, none⟩ = false ∧ g < w1.heap.size := by
  obtain ⟨cs, t, h1, h2⟩ := h; exact ⟨(q5 h1 off).trans h2, q13 h1 off, blk_lt h1⟩
theorem putG_plug : ∀ (q : List Int) (i : Int) (l y : List Tm), Leads (q ++ [i]) l → putG (q ++ [i]) l y = plug q l (((sub q l).take i.toNat ++ y) ++ (sub q l).drop (i.toNat + 1))
  | [], i, l, y, h => by
    show putG [i] l y = _; rw [putG, if_pos rfl]; rfl
  | j :: q, i, l, y, h => by
    show putG (j :: (q ++ [i])) l y = l.set j.toNat _; rw [putG, if_neg (by simp), putG_plug q i _ y h.2.2, List.set_eq_take_append_cons_drop, if_pos h.2.1]; simp [sub]
theorem sub_bk : ∀ (q : List Int) (l : List Tm), Leads q l → bk42s (sub q l) ≤ bk42s l
  | [], l, _ => Nat.le_refl _
  | j :: q, l, h => by
    have h1 := sub_bk q _ h.2.2; have h2 := bks_split l j.toNat h.2.1; have h3 := bk42_eq (l[j.toNat]'h.2.1); rw [sub]; rw [rd_in h.2.1] at h1 ⊢
    omega
structure Foc (w1 : World) (bo : Nat) (l : List Tm) (n : Nat) (q : List Int) (g off lo hi : Nat) (u : Value) : Prop where
  blk : ∃ cs t, w1.heap[g]? = some (.cells cs t (0, 0)) ∧ cs[off]? = some u
  tree : OT w1 n (sub q l) u lo hi
  out : ¬ (lo ≤ g ∧ g < hi)
  top : hi ≤ w1.heap.size
  change : ∀ (W' : World) (A' : Option Addr) (c' : Nat) (y : List Tm), (∀ k, k < w1.heap.size → k ≠ g → ¬ (lo ≤ k ∧ k < hi) → W'.heap[k]? = w1.heap[k]?) → (∀ cs t, w1.heap[g]? = some (.cells cs t (0, 0)) → W'.heap[g]? = some (.cells (cs.setIfInBounds off (.slice A' y.length c')) t (0, 0))) →
    y.length ≤ c' → Kd.C k42 W' A' y.length y → ∃ A c, W'.cell? ⟨bo, 0, none⟩ = some (.slice A (plug q l y).length c) ∧ (plug q l y).length ≤ c ∧ Kd.C k42 W' A (plug q l y).length (plug q l y)
theorem Foc.start {w1 : World} {l : List Tm} {n lo : Nat} {u : Value} (h : OT w1 n l u lo w1.heap.size) : Foc (w1.alloc (.cells #[u] 22)) w1.heap.size l n [] w1.heap.size 0 lo w1.heap.size u := by
  have hb : Below w1.heap.size w1 (w1.alloc (.cells #[u] 22)) := (Below.refl _ _).alloc (Nat.le_refl _) _; have hn := World.alloc_heap_new w1 (.cells #[u] 22); refine ⟨⟨#[u], _, hn, rfl⟩, OT.frame n _ _ _ _ h (fun k _ hk => hb.block k hk), by omega, hb.size, fun W' A' c' y h1 h2 h3 h4 => ?_⟩; have h5 := h2 _ _ hn; exact ⟨A', c', (q5 h5 0).trans rfl, h3, h4⟩
theorem set_self' {cs : Array Value} {i : Nat} {u : Value} (h : cs[i]? = some u) : cs.setIfInBounds i u = cs := by
  obtain ⟨hl, hv⟩ := Array.getElem?_eq_some_iff.1 h; apply Array.ext_getElem?; intro j
  by_cases hj : i = j
  · subst hj; rw [set_same h rfl, h]
  · rw [set_other hj]
theorem Foc.step {w1 : World} {bo : Nat} {l : List Tm} {n : Nat} {q : List Int} {g off lo hi : Nat} {u : Value} (h : Foc w1 bo l n q g off lo hi u) (i : Nat) (hi1 : i < (sub q l).length) (hbk : bk42s (sub q l) ≤ 1048576) :
    ∃ b c n' lo' hi' u', u = .slice (some ⟨b, 0, none⟩) (sub q l).length c ∧ (sub q l).length ≤ c ∧ lo ≤ b ∧ lo ≤ lo' ∧ Foc w1 bo l n' (q ++ [(i : Int)]) b (i * 3 + 2) lo' hi' u' := by
  obtain ⟨cs0, t0, hg1, hg2⟩ := h.blk; have ht := h.tree
  cases n with
  | zero => obtain ⟨h0, _⟩ := ht; rw [h0] at hi1; simp at hi1
  | succ n =>
    rcases ht with ⟨h0, _⟩ | ⟨b, c, cs, f, hu, hc, hlo, hlow, hhi, hmono, hrow, hall⟩
    · rw [h0] at hi1; simp at hi1
    · have hm := mono_le hmono; have hx : (sub q l)[i]? = some ((sub q l)[i]'hi1) := List.getElem?_eq_getElem hi1; obtain ⟨u', a1, a2, a3, a4⟩ := hall i _ hx
      have hrd : rd_T42 (sub q l) (i : Int) = (sub q l)[i]'hi1 := by simp [rd_T42, List.getD_eq_getElem?_getD, hx]
      have hbg : g ≠ b := fun e => h.out (by subst e; have := hm 0 (sub q l).length (Nat.zero_le _) (Nat.le_refl _); omega)
      have h00 := hm 0 i (Nat.zero_le _) (by omega); have h0n := hm (i + 1) (sub q l).length (by omega) (Nat.le_refl _); have hii := hmono i (by omega); refine ⟨b, c, n, f i, f (i + 1), u', hu, hc, by omega, by omega, ⟨⟨cs, _, hrow, a3⟩, by rw [sub_snoc, hrd]; exact a4, by omega, by have := h.top; omega, fun W' A' c' y h1 h2 h3 h4 => ?_⟩⟩; rw [plug_snoc]; have hrow' := h2 _ _ hrow
      have hlen : ∀ z : Tm, ((sub q l).set (i : Int).toNat z).length = (sub q l).length := fun z => List.length_set
      have hgsame : W'.heap[g]? = w1.heap[g]? := h1 g (blk_lt hg1) hbg (fun e => h.out (by omega)); refine h.change W' (some ⟨b, 0, none⟩) c _ (fun k hk hkg hko => h1 k hk (fun e => hko (by omega)) (fun e => hko (by omega))) (fun cs' t' hcs' => ?_) (by rw [hlen]; exact hc) ?_
      · rw [hgsame, hlen, ← hu]; rw [hg1] at hcs'
        injection hcs' with hcs'
        injection hcs' with e1 e2 e3
        subst e1; subst e2; rw [set_self' hg2]; exact hg1
      · rw [Int.toNat_natCast]; refine ⟨rfl, by rw [List.length_set]; have := bk_len (sub q l); omega, fun _ => ⟨_, rfl, fun j p hp => ?_⟩⟩; have cell : ∀ (x : Tm) (A2 : Option Addr) (c2 : Nat), (cs.setIfInBounds (i * 3 + 2) (.slice A' y.length c'))[j * 3]? = some (.int .i64 x.f0) → (cs.setIfInBounds (i * 3 + 2) (.slice A' y.length c'))[j * 3 + 1]? = some (.string x.f1) → (cs.setIfInBounds (i * 3 + 2) (.slice A' y.length c'))[j * 3 + 2]? = some (.slice A2 x.f2.length c2) → x.f2.length ≤ c2 → Kd.C k42 W' A2 x.f2.length x.f2 →
            ∃ c : List Value, c.length = k42.sz ∧ k42.K W' x c ∧ ∀ i u, c[i]? = some u → W'.cell? ((⟨b, 0, none⟩ : Addr).add (j * k42.sz + i)) = some u := fun x A2 c2 b1 b2 b3 l2 g2 => by
          refine ⟨[.int .i64 x.f0, .string x.f1, .slice A2 x.f2.length c2], rfl, k42_mk W' x l2 g2, fun m u hu => ?_⟩; rw [add_plain]; refine (q5 hrow' _).trans ?_
          match m, hu with
          | 0, hu => exact b1.trans hu
          | 1, hu => exact b2.trans hu
          | 2, hu => exact b3.trans hu
        by_cases hji : j = i
        · subst hji; rw [List.getElem?_set_self (by omega)] at hp
          injection hp with hp
          subst hp; rw [hrd]; exact cell ⟨_, _, y⟩ A' c' ((set_other (by omega)).trans a1) ((set_other (by omega)).trans a2) (set_same a3 rfl) h3 h4
        · rw [List.getElem?_set_ne (fun e => hji e.symm)] at hp; obtain ⟨v, d1, d2, d3, d4⟩ := hall j p hp; have hjl := idx_lt hp
          have hfo : ∀ k, f j ≤ k → k < f (j + 1) → W'.heap[k]? = w1.heap[k]? := fun k k1 k2 => by
            have g1 := hm 0 j (Nat.zero_le _) (by omega); have g2 := hm (j + 1) (sub q l).length (by omega) (Nat.le_refl _); have g3 := h.top; refine h1 k (by omega) (by omega) (fun e => ?_)
            rcases Nat.lt_or_ge j i with h5 | h5
            · have := hm (j + 1) i (by omega) (by omega); omega
            · have := hm (i + 1) j (by omega) (by omega); omega
          obtain ⟨A2, c2, rfl, l2, g2⟩ := OT.reads (OT.frame n _ _ _ _ d4 hfo) (by have := bk_mem (List.mem_of_getElem? hp); omega); exact cell p A2 c2 ((set_other (by omega)).trans d1) ((set_other (by omega)).trans d2) ((set_other (by omega)).trans d3) l2 g2
theorem rows3_F {W : World} {ok : Nat → Prop} {b : Nat} {A1 A2 A3 : Option Addr} {c1 c2 c3 : Nat} {l1 l2 l3 : List Tm} (h : W.heap[b]? = some (.cells #[.slice A1 l1.length c1, .slice A2 l2.length c2, .slice A3 l3.length c3] 22 (0, 0))) (hb : ok b)
    (h1 : l1.length ≤ c1) (f1 : Kd.F k42 W ok A1 l1.length l1) (h2 : l2.length ≤ c2) (f2 : Kd.F k42 W ok A2 l2.length l2) (h3 : l3.length ≤ c3) (f3 : Kd.F k42 W ok A3 l3.length l3) :
    Kd.F (Kd.slice 42 k42) W ok (some ⟨b, 0, none⟩) 3 [l1, l2, l3] := by
  intro W' hW; have hrow := (hW b hb (blk_lt h)).trans h; refine ⟨rfl, by decide, fun _ => ⟨_, rfl, fun j p hp => ?_⟩⟩
  match j, hp with
  | 0, hp =>
    obtain rfl : l1 = p := by simpa using hp
    exact ⟨[.slice A1 l1.length c1], rfl, ⟨A1, c1, rfl, h1, f1 W' hW⟩, fun i u hu => by rw [add_plain]; match i, hu with | 0, hu => exact (q5 hrow _).trans hu⟩
  | 1, hp =>
    obtain rfl : l2 = p := by simpa using hp
    exact ⟨[.slice A2 l2.length c2], rfl, ⟨A2, c2, rfl, h2, f2 W' hW⟩, fun i u hu => by rw [add_plain]; match i, hu with | 0, hu => exact (q5 hrow _).trans hu⟩
  | 2, hp =>
    obtain rfl : l3 = p := by simpa using hp
    exact ⟨[.slice A3 l3.length c3], rfl, ⟨A3, c3, rfl, h3, f3 W' hW⟩, fun i u hu => by rw [add_plain]; match i, hu with | 0, hu => exact (q5 hrow _).trans hu⟩
theorem OT.foot {W : World} {n : Nat} {l : List Tm} {v : Value} {lo hi : Nat} (h : OT W n l v lo hi) (hb : bk42s l ≤ 1048576) : ∃ A c, v = .slice A l.length c ∧ l.length ≤ c ∧ Kd.F k42 W (fun k => lo ≤ k ∧ k < hi) A l.length l := by
  obtain ⟨A, c, rfl, h1, h2⟩ := OT.reads h hb; refine ⟨A, c, rfl, h1, fun W' hW => ?_⟩; obtain ⟨A', c', e, _, h4⟩ := OT.reads (OT.frame' n l _ lo hi h (fun k k1 k2 o ho => (hW k ⟨k1, k2⟩ (blk_lt ho)).trans ho)) hb
  injection e with e1 e2 e3
  subst e1; exact h4
end Go.Proofs.Ytdbjjaodkapikaa.TE
end
section
namespace Go.Proofs.Ytdbjjaodkapikaa.TE
open Go.RowKit Go.Shelf Go.Proofs.YtdbjjaodkapikaaW.PrintWords Go.Proofs.YtdbjjaodkapikaaW.PrintLast Go.Proofs.YtdbjjaodkapikaaW.PrintMore Go.Proofs.Ytdbjjaodkapikaa.Evs
set_option linter.unusedVariables false
set_option linter.unusedSimpArgs false
set_option maxRecDepth 100000 in
set_option maxHeartbeats 4000000 in
theorem Put.calls (p : List Int) (A : Option Addr) (c : Nat) (l : List Tm) (P : Option Addr) (d : Nat) (B : Option Addr) (b : Nat) (y : List Tm) (w : World) (hC : Kd.C k42 w A l.length l) (hc : l.length ≤ c) (hP : Kd.C (Kd.int .i64) w P p.length p) (hd : p.length ≤ d) (hY : Kd.C k42 w B y.length y) (hy : y.length ≤ b) (hpl : p.length ≤ 1048576) (hb : bk42s l + bk42s y ≤ 1048576) :
    Calls Try.prog 33 #[.slice A l.length c, .slice P p.length d, .slice B y.length b] w fun e w' => ∃ A' c', e = .returned (.tuple #[.slice A' (putR p l y).1.length c', .bool (putR p l y).2]) ∧ (putR p l y).1.length ≤ c' ∧ Kd.C k42 w' A' (putR p l y).1.length (putR p l y).1 ∧ Below w.heap.size w w' := by
  have hat := At.calls A c l P d p w hC hc hP hd hpl; rw [atR_eq] at hat; obtain ⟨m, hm⟩ : ∃ m, m = p.length := ⟨_, rfl⟩; rw [← hm] at hat hd hpl ⊢; have HAT := Aside0.mk hat; have HC := Aside0.mk hC; have HCC := Aside0.mk hc; have HP := Aside0.mk hP; have HD := Aside0.mk hd; have HY := Aside0.mk hY; have HYY := Aside0.mk hy; have HM := Aside0.mk hm; have HPL := Aside0.mk hpl; have HBK := Aside0.mk hb; clear hC hc hP hd hY hy hpl hb hm hat
  go_enter Try.func33, Try.ntmps33
  go_wp2_with fail
  refine HAT.out.mono ?_; rintro e w1 ⟨A', c', rfl, hl', hC', hb1⟩; clear hl' hC'; obtain ⟨q0, hq0⟩ : ∃ q, q = (rAR p l).1.f0 := ⟨_, rfl⟩; obtain ⟨q1, hq1⟩ : ∃ q, q = (rAR p l).1.f1 := ⟨_, rfl⟩; obtain ⟨q2, hq2⟩ : ∃ q, q = (rAR p l).1.f2.length := ⟨_, rfl⟩; obtain ⟨rb, hrb⟩ : ∃ q, q = (rAR p l).2 := ⟨_, rfl⟩; rw [← hq0, ← hq1, ← hq2, ← hrb]; clear hq0 hq1 hq2; have hb2 : Below w1.heap.size w1 (w1.alloc (.cells #[.int .i64 q0, .string q1, .slice A' q2 c'] 42)) := (Below.refl _ _).alloc (Nat.le_refl _) _; obtain ⟨W2, hW2⟩ : ∃ W2, w1.alloc (.cells #[.int .i64 q0, .string q1, .slice A' q2 c'] 42) = W2 := ⟨_, rfl⟩; rw [hW2] at hb2; have HW2 := Aside0.mk hW2; have HB2 := Aside0.mk (q14 hb1 hb2); clear hb1 hb2 hW2
  rcases hra : rA p l with _ | x
  · have hrf : rb = false := by rw [hrb]; unfold rAR; rw [hra]
    have HR : Aside0 (putR p l y = ([], false)) := ⟨by unfold putR; rw [hra]⟩; subst hrf; clear hrb hra
    go_upto_region 2 with fail
    rw [HW2.out]
    go_wp2_with fail
    go_ret2
    rw [HR.out]; exact ⟨none, 0, rfl, Nat.le_refl _, Kd.C_nil _ _, HB2.out⟩
  · have hrf : rb = true := by rw [hrb]; unfold rAR; rw [hra]
    have HR : Aside0 (putR p l y = (putG p l y, true)) := ⟨by unfold putR; rw [hra]⟩; have hlead := leads_of p l x hra; subst hrf
    obtain ⟨q, i, hqi⟩ : ∃ q i, p = q ++ [i] := by
      rcases List.eq_nil_or_concat p with h | ⟨q, i, h⟩
      · subst h; rw [rA] at hra; cases hra
      · exact ⟨q, i, by simpa using h⟩
    obtain ⟨m0, hm0⟩ : ∃ m0, m0 = q.length := ⟨_, rfl⟩
    have hmm : m = m0 + 1 := by rw [HM.out, hqi, hm0]; simp
    have HG : Aside0 (putG p l y = plug q l (((sub q l).take i.toNat ++ y) ++ (sub q l).drop (i.toNat + 1))) := ⟨by rw [hqi]; exact putG_plug q i l y (by rw [← hqi]; exact hlead)⟩; have HLEAD := Aside0.mk hlead; have HQI := Aside0.mk hqi; have HM0 := Aside0.mk hm0; have HMM := Aside0.mk hmm
    have hm1 : m0 < m := by omega
    have hpl := HPL.out
    have hwm : IntKind.i64.wrap ((m : Int) - 1) = (m0 : Int) := by rw [i64_w]; rw [wrap64_id (by omega) (by omega)]; omega
    obtain ⟨i1, hinf1, hz01, hsz1, hz21⟩ := info_parts info_int'; have hct := cut_to (P := Try.prog) 40 3 .i64 Try.underlying40 hinf1 P m d (m0 : Int) (by omega) (by omega) HD.out; rw [Int.toNat_natCast] at hct; clear hrb hra hlead hqi hm0 hmm hinf1 hz01 hsz1 hz21 hpl
    go_upto_region 4 with fail
    rw [HW2.out]
    go_wp2_with fail
    refine (Copy.calls w (SizeOf.sizeOf l) A c l W2 (Nat.le_refl _) HC.out HCC.out HB2.out (by have := HBK.out; omega)).mono ?_; rintro e w3 ⟨v, rfl, ho3, hb3⟩; obtain ⟨Av, cv, rfl⟩ := ho3.form; have hf := Foc.start (OT.mono ho3 (Nat.le_refl _) (Nat.le_refl _)); have hb4 : Below w3.heap.size w3 (w3.alloc (.cells #[.slice Av l.length cv] 22)) := (Below.refl _ _).alloc (Nat.le_refl _) _
    have hs4 : (w3.alloc (.cells #[.slice Av l.length cv] 22)).heap.size = w3.heap.size + 1 := by simp
    obtain ⟨W4, hW4⟩ : ∃ W4, w3.alloc (.cells #[.slice Av l.length cv] 22) = W4 := ⟨_, rfl⟩; rw [hW4] at hf hb4 hs4; have HW4 := Aside0.mk hW4; have HF4 := Aside0.mk hf; have HB4 := Aside0.mk (q14 (q14 HB2.out hb3) hb4); have HB23 := Aside0.mk hb3.size; have HS4 := Aside0.mk hs4; clear ho3 hb3 hf hb4 hs4 hW4
    go_upto_region 6 with fail
    rw [HW4.out]
    go_wp2_with fail
    obtain ⟨pad, hpad, _⟩ := Kd.at_int HP.out (0 : Int) (by omega) (by have := HM.out; omega); subst hpad
    go_loop [11, 31] (fun a i => ∃ (k n g off lo hi : Nat) (u : Value), i = .int .i64 k ∧ a = .pointer (some ⟨g, off, none⟩) ∧ k ≤ m0 ∧ Aside0 (Foc W4 w3.heap.size l n (p.take k) g off lo hi u) ∧ Aside0 (w.heap.size ≤ g ∧ w.heap.size ≤ lo)) (fun a i => m0 - (intOf i).toNat)
    case atStart => exact ⟨0, _, _, _, _, _, _, rfl, rfl, Nat.zero_le _, HF4, ⟨by have := HB2.out.size; have := HB23.out; omega, HB2.out.size⟩⟩
    case round =>
      obtain ⟨k, n, g, off, lo, hi, u, rfl, rfl, hk, HF, HGE⟩ := hrel; have hk0 : (0 : Int) ≤ (k : Int) := Int.natCast_nonneg _
      by_cases hlt : k < m0
      · obtain ⟨pad', hpad', hpc⟩ := Kd.at_int HP.out (k : Int) (by omega) (by have := HM.out; omega)
        injection hpad' with hpad'
        subst hpad'; rw [Int.toNat_natCast] at hpc
        have hkp : k < p.length := by have := HM.out; omega
        have hrd : rd p (k : Int) = p[k] := by simp [rd, List.getD_eq_getElem?_getD, List.getElem?_eq_getElem hkp]
        rw [hrd] at hpc; replace hpc := (HB4.out.cell (World.block_lt_of_cell? w _ hpc)).trans hpc; obtain ⟨hi0, hi1, hl0, htk⟩ := leads_at HLEAD.out k hkp; obtain ⟨ik, hik⟩ := Int.eq_ofNat_of_zero_le hi0; rw [hik] at hpc hi1 htk; rw [Int.toNat_natCast] at hi1; obtain ⟨b1, cu, n', lo', hi', u', hu, hcu, hg1, hg2, hf'⟩ := HF.out.step ik hi1 (by have := sub_bk _ _ hl0; have := HBK.out; omega); rw [← htk] at hf'; obtain ⟨x0, x1, x2⟩ := foc_cell HF.out.blk; obtain ⟨n1, hn1⟩ : ∃ n1, n1 = (sub (p.take k) l).length := ⟨_, rfl⟩; rw [← hn1] at hi1 hu hcu; rw [hu] at x0
        have hi2 : (ik : Int) < (n1 : Int) := by omega
        have hi3 : (0 : Int) ≤ (ik : Int) := Int.natCast_nonneg _; have HF' := Aside0.mk hf'
        have hkw : IntKind.i64.wrap ((k : Int) + 1) = (k : Int) + 1 := by have := HPL.out; rw [i64_w]; rw [wrap64_id (by omega) (by omega)]
        have hkb : decide ((k : Int) < (m0 : Int)) = true := decide_eq_true (by omega)
        have hkl : (k : Int) < (m0 : Int) := by omega
        have HGE' : Aside0 (w.heap.size ≤ b1 ∧ w.heap.size ≤ lo') := ⟨by have := HGE.out; omega, by have := HGE.out; omega⟩; clear hrd hik htk hf' hu hn1 hl0 hi0 HF hg1 hg2
        go_wp2_with fail
        exact ⟨⟨k + 1, n', b1, ik * 3 + 2, lo', hi', u', by go_num, rfl, by omega, HF', HGE'⟩, by simp [intOf]; omega⟩
      · have hkm : k = m0 := by omega
        subst hkm
        have hkp : k < p.length := by have := HM.out; omega
        obtain ⟨pad', hpad', hpc⟩ := Kd.at_int HP.out (k : Int) (by omega) (by have := HM.out; omega)
        injection hpad' with hpad'
        subst hpad'; rw [Int.toNat_natCast] at hpc
        have hrd : rd p (k : Int) = p[k] := by simp [rd, List.getD_eq_getElem?_getD, List.getElem?_eq_getElem hkp]
        have hpi : p[k] = i := by
          have h := HQI.out
          have : p[k]? = some i := by rw [h, HM0.out]; simp
          rw [List.getElem?_eq_getElem hkp] at this; injection this
        have hpq : p.take k = q := by rw [HQI.out, HM0.out]; simp
        rw [hrd, hpi] at hpc; replace hpc := (HB4.out.cell (World.block_lt_of_cell? w _ hpc)).trans hpc; obtain ⟨hi0, hi1, hl0, htk⟩ := leads_at HLEAD.out k hkp; rw [hpi] at hi0 hi1; rw [hpq] at hi1 hl0; have HF0 : Aside0 (Foc W4 w3.heap.size l n q g off lo hi u) := ⟨by rw [← hpq]; exact HF.out⟩; have hsb := sub_bk _ _ hl0; obtain ⟨x0, x1, x2⟩ := foc_cell HF0.out.blk; obtain ⟨cur, hcur⟩ : ∃ cur, cur = sub q l := ⟨_, rfl⟩; have htree := HF0.out.tree; have HG' : Aside0 (putG p l y = plug q l ((cur.take i.toNat ++ y) ++ cur.drop (i.toNat + 1))) := ⟨by rw [hcur]; exact HG.out⟩; rw [← hcur] at hi1 hsb htree; obtain ⟨Au, cu, rfl, hcu, hFu⟩ := htree.foot (by have := HBK.out; omega); have hcb := bk_len cur; have hfu : Kd.F k42 W4 (fun k => k ≠ g) Au cur.length cur := Kd.F_mono hFu (fun k hk e => HF0.out.out (by rw [← e]; exact hk)); obtain ⟨i0, hinf, hz0, hsz, hz2⟩ := info_parts info_term'; obtain ⟨la, hla⟩ : ∃ la, la = cur.take i.toNat := ⟨_, rfl⟩; obtain ⟨lb, hlb⟩ : ∃ lb, lb = cur.drop (i.toNat + 1) := ⟨_, rfl⟩; have hca := cut_to (P := Try.prog) 22 42 .i64 Try.underlying22 hinf Au cur.length cu i hi0 (by omega) hcu; have hcf := cut_from (P := Try.prog) 22 42 .i64 Try.underlying22 hinf 3 hsz Au cur.length cu (i + 1) (by omega) (by omega)
        have ha1 : la.length = i.toNat := by rw [hla, List.length_take]; omega
        have hb1 : lb.length = cur.length - (i + 1).toNat := by rw [hlb, List.length_drop]; omega
        have hFa : Kd.F k42 W4 (fun k => k ≠ g) Au la.length la := by rw [hla]; exact Kd.F_take hfu (by omega)
        have hFb := Kd.F_cut (c := cu) hfu (m := (i + 1).toNat) (by omega) hcu; rw [show cur.drop (i + 1).toNat = lb from by rw [hlb]; congr 1; omega] at hFb; obtain ⟨A3, hA3⟩ : ∃ A3, A3 = (if cu = (i + 1).toNat then Au else Au.map (·.add ((i + 1).toNat * 3))) := ⟨_, rfl⟩
        replace hFb : Kd.F k42 W4 (fun k => k ≠ g) A3 lb.length lb := by rw [hA3]; exact hFb
        obtain ⟨c3, hc3⟩ : ∃ c3, c3 = cu - (i + 1).toNat := ⟨_, rfl⟩; rw [← ha1] at hca; rw [← hb1, ← hA3, ← hc3] at hcf
        have hwi : IntKind.i64.wrap (i + 1) = i + 1 := by rw [i64_w]; have := HBK.out; rw [wrap64_id (by omega) (by omega)]
        have HFa := Aside0.mk hFa; have HFb := Aside0.mk hFb; have HA1 : Aside0 (la.length ≤ cu ∧ lb.length ≤ c3 ∧ la.length + lb.length ≤ 1048576) := ⟨by omega, by omega, by have := HBK.out; omega⟩; have HG2 : Aside0 (putG p l y = plug q l ((la ++ y) ++ lb)) := ⟨by rw [hla, hlb]; exact HG'.out⟩; have hkb : decide ((k : Int) < (k : Int)) = false := decide_eq_false (by omega)
        have hkl : (k : Int) < (m : Int) := by omega
        clear htk; clear hkp hrd hpi hpq hl0 HF hsb hcur htree HG' hcb hfu hinf hz0 hsz hz2 hla hlb ha1 hb1 hFa hFb hA3 hc3 hi1 hFu HG; obtain ⟨l7, hl7⟩ : ∃ l7, l7 = (la ++ y) ++ lb := ⟨_, rfl⟩; have HFL : Aside0 ([la, y, lb].flatten = l7) := ⟨by rw [hl7]; simp⟩; have HG7 : Aside0 (putG p l y = plug q l l7) := ⟨by rw [hl7]; exact HG2.out⟩; have HLN : Aside0 (lens [la, y, lb] * 48 ≤ 140737488355328) := ⟨by have := HA1.out; have := HBK.out; have := bk_len y; simp only [lens]; omega⟩; have HX2 := Aside0.mk x2; clear hl7
        go_wp2_with fail
        go_region_with (first
          | (go_at_call 29; (with_reducible refine (Copy.calls w (SizeOf.sizeOf y) B b y _ (Nat.le_refl _) HY.out HYY.out (q24 HB4.out) (by have := HBK.out; omega)).mono ?_); rintro e w5 ⟨vy, rfl, hoy, hb5⟩; obtain ⟨Ay, cy, rfl, hcy, hFy⟩ := hoy.foot (by have := HBK.out; omega); have HCY := Aside0.mk hcy; have HFy := Aside0.mk (Kd.F_mono (ok' := fun k => k ≠ g) hFy (fun k hk e => by have h1 := HX2.out; have h2 : W4.heap.size ≤ k := hk.1; omega)); have HFa5 := Aside0.mk (Kd.F_below (Kd.F_drew HFa.out) hb5); have HFb5 := Aside0.mk (Kd.F_below (Kd.F_drew HFb.out) hb5); have HB5 := Aside0.mk (q14 (q24 HB4.out) hb5); have HB45 := Aside0.mk hb5; have z0 := (hb5.cell (World.block_lt_of_cell? _ _ x0)).trans x0; clear hoy hb5 hcy hFy)
          | (go_at_call 35; have hb6 : Below w5.heap.size w5 (w5.alloc (.cells #[.slice Au la.length cu, .slice Ay y.length cy, .slice A3 lb.length c3] 22)) := (Below.refl _ _).alloc (Nat.le_refl _) _; have HG5 : Aside0 (g < w5.heap.size) := ⟨by have h1 := HX2.out; have h2 : W4.heap.size ≤ w5.heap.size := HB45.out.size; omega⟩; refine (concat.calls (some ⟨w5.heap.size, 0, none⟩) 3 [la, y, lb] _ (fun k => k ≠ g) (rows3_F (World.alloc_heap_new w5 _) (by have := HG5.out; omega) HA1.out.1 (Kd.F_below HFa5.out hb6) HCY.out (Kd.F_below HFy.out hb6) HA1.out.2.1 (Kd.F_below HFb5.out hb6)) HLN.out).mono ?_; rintro e w7 ⟨v7, rfl, hN7, hb7⟩; rw [HFL.out] at hN7; have HN7 := Aside0.mk (Kd.N_mono hN7 (fun k hk => show k ≠ g from hk.elim id (fun h e => by have h1 := HG5.out; have h2 := hb6.size; omega))); have HB57 := Aside0.mk (q14 hb6 hb7); have HB7 := Aside0.mk (q14 HB5.out HB57.out); have HB47 := Aside0.mk (q14 (q24 (Below.refl W4.heap.size W4)) (q14 HB45.out HB57.out)); have y0 := (HB57.out.cell (World.block_lt_of_cell? _ _ z0)).trans z0; have y1 : w7.frozen? ⟨g, off, none⟩ = false := (HB47.out.frozen (p := ⟨g, off, none⟩) HX2.out).trans x1; obtain ⟨A7, c7, rfl⟩ := Kd.N_slice HN7.out; clear hb6 hN7 hb7))
        all_goals
          obtain ⟨hn1, hn2, hn3⟩ := Kd.N_reads' (Kd.N_far (p := ⟨g, off, none⟩) HN7.out (fun k hk => hk) (.slice A7 l7.length c7))
          have hset : ∀ cs t, W4.heap[g]? = some (.cells cs t (0, 0)) → (w7.setCell ⟨g, off, none⟩ (.slice A7 l7.length c7)).heap[g]? = some (.cells (cs.setIfInBounds off (.slice A7 l7.length c7)) t (0, 0)) := fun cs t h => blk_set ((HB47.out.block g HX2.out).trans h) _ _
          obtain ⟨Af, cf, hf1, hf2, hf3⟩ := HF0.out.change (w7.setCell ⟨g, off, none⟩ (.slice A7 l7.length c7)) A7 c7 l7 (fun j h1 h2 _ => (Below.heap_setCell w7 ⟨g, off, none⟩ _ j h2).trans (HB47.out.block j h1)) hset hn2 hn3; have hbf := HB7.out.setCell (p := ⟨g, off, none⟩) HGE.out.1 (.slice A7 l7.length c7); obtain ⟨pl, hpl⟩ : ∃ pl, pl = plug q l l7 := ⟨_, rfl⟩; rw [← hpl] at hf1 hf2 hf3; have HPF : Aside0 (putR p l y = (pl, true)) := ⟨by rw [HR.out, HG7.out, hpl]⟩; have HF2 := Aside0.mk hf2; have HF3 := Aside0.mk hf3; have HBF := Aside0.mk hbf; clear hn1 hn2 hn3 hset hf2 hf3 hbf hpl x0 x1 x2 z0 y0 y1
          go_wp2_with fail
          go_ret2
          rw [HPF.out]; exact ⟨Af, cf, rfl, HF2.out, HF3.out, HBF.out⟩
end Go.Proofs.Ytdbjjaodkapikaa.TE
end
