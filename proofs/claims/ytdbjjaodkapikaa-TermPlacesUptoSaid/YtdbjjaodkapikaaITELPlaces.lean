/- The law TermPlaces, by hand. -/
import Derived.Test.YtdbjjaodkapikaaITELErrors
import Derived.Test.YtdbjjaodkapikaaITEParts2
import Derived.Test.YtdbjjaodkapikaaITEPl6
namespace Go.Proofs.Ytdbjjaodkapikaa.TE
open Go.RowKit Go.Shelf Go.Proofs.YtdbjjaodkapikaaW.PrintWords Go.Proofs.YtdbjjaodkapikaaW.PrintLast Go.Proofs.YtdbjjaodkapikaaW.PrintMore Go.Proofs.Ytdbjjaodkapikaa.Evs
set_option linter.unusedVariables false
set_option linter.unusedSimpArgs false
theorem rows2 {w : World} {A B : Option Addr} {c d : Nat} {l m : List Tm} (hC : Kd.C k42 w A l.length l) (hc : l.length ≤ c) (hD : Kd.C k42 w B m.length m) (hd : m.length ≤ d) :
    Kd.C (Kd.slice 42 k42) (w.alloc (.cells #[.slice A l.length c, .slice B m.length d] 22)) (some ⟨w.heap.size, 0, none⟩) 2 [l, m] := by
  have hb : Below w.heap.size w (w.alloc (.cells #[.slice A l.length c, .slice B m.length d] 22)) := (Below.refl _ _).alloc (Nat.le_refl _) _; refine ⟨rfl, by decide, fun _ => ⟨_, rfl, fun j p hp => ?_⟩⟩
  match j, hp with
  | 0, hp =>
    obtain rfl : l = p := by simpa using hp
    refine ⟨[.slice A l.length c], rfl, ⟨A, c, rfl, hc, Kd.C_below hC hb⟩, fun i u hu => ?_⟩; rw [add_plain]; refine (q5 (World.alloc_heap_new w _) _).trans ?_
    match i, hu with
    | 0, hu => exact hu
  | 1, hp =>
    obtain rfl : m = p := by simpa using hp
    refine ⟨[.slice B m.length d], rfl, ⟨B, d, rfl, hd, Kd.C_below hD hb⟩, fun i u hu => ?_⟩; rw [add_plain]; refine (q5 (World.alloc_heap_new w _) _).trans ?_
    match i, hu with
    | 0, hu => exact hu
theorem Equal_self {l : List Tm} (h : bk42s l ≤ 1099511627776) : ∃ k, chiasmusref01_Equal.f k l l = some true := by
  obtain ⟨v5, _, _, e5, _, i5⟩ := Equals_ev h h; have hv5 : v5 = 0 := i5.2 rfl; subst hv5; obtain ⟨k5, hk5⟩ := e5.get; exact ⟨k5, hk5⟩
theorem rA_bk : ∀ (p : List Int) (l : List Tm) (x : Tm), rA p l = some x → bk42 x ≤ bk42s l
  | [], l, x, h => by rw [rA] at h; cases h
  | i :: r, l, x, h => by
    obtain ⟨h0, h1, h2⟩ := rA_cons h; have hs := bks_split l i.toNat h1; have he := bk42_eq (l[i.toNat]'h1)
    by_cases hr : r = []
    · rw [rA, dif_pos ⟨h0, h1⟩, if_pos hr] at h
      injection h with h
      rw [← h]; omega
    · have ih := rA_bk r _ x (h2 hr); rw [rd_in h1] at ih
      omega
theorem rAR_bk (p : List Int) (l : List Tm) : bk42 (rAR p l).1 ≤ bk42s l + 4 := by
  unfold rAR
  rcases h : rA p l with _ | x
  · rw [bk42_eq]; show 0 + 4 + bk42s [] ≤ _; simp [bk42s]
  · have := rA_bk p l x h; show bk42 x ≤ _
    omega
theorem putR_bk (p : List Int) (l y : List Tm) : bk42s (putR p l y).1 ≤ bk42s l + bk42s y := by
  unfold putR
  rcases h : rA p l with _ | x
  · simp [bk42s]
  · exact putG_bk p l y x h
set_option maxRecDepth 100000 in
set_option maxHeartbeats 4000000 in
theorem TermPlaces.calls (A : Option Addr) (c : Nat) (l : List Tm) (P : Option Addr) (d : Nat) (p : List Int) (B : Option Addr) (b : Nat) (y : List Tm) (w : World) (hC : Kd.C k42 w A l.length l) (hc : l.length ≤ c) (hP : Kd.C (Kd.int .i64) w P p.length p) (hd : p.length ≤ d) (hY : Kd.C k42 w B y.length y) (hy : y.length ≤ b) (ok : ok42s l) (ok2 : ok42s y) (hb : bk42s l + p.length + bk42s y ≤ 1048576) :
    Calls Try.prog 7 #[.slice A l.length c, .slice P p.length d, .slice B y.length b] w fun e w' => e = .returned (.bool true) ∧ Below w.heap.size w w' := by
  have h1s : ∀ z : Tm, bk42s [z] = bk42 z := fun z => by simp [bk42s]
  obtain ⟨k1, hk1⟩ := Equal_self (l := [(rAR p l).1]) (by rw [h1s]; have := rAR_bk p l; omega); obtain ⟨k2, hk2⟩ := Equal_self (l := (putR p l y).1) (by have := putR_bk p l y; omega); obtain ⟨v, hv⟩ : ∃ v, v = (rAR p l).1 := ⟨_, rfl⟩; obtain ⟨vo, hvo⟩ : ∃ v, v = (rAR p l).2 := ⟨_, rfl⟩; obtain ⟨q, hq⟩ : ∃ v, v = (putR p l y).1 := ⟨_, rfl⟩; obtain ⟨qo, hqo⟩ : ∃ v, v = (putR p l y).2 := ⟨_, rfl⟩
  have hcall1 := fun (w1 : World) (hb : Below w.heap.size w w1) => At.calls A c l P d p w1 (Kd.C_below hC hb) hc (Kd.C_below hP hb) hd (by omega)
  have hcall2 := fun (w1 : World) (hb : Below w.heap.size w w1) => rAt.calls p A c l P d w1 (Kd.C_below hC hb) hc (Kd.C_below hP hb) hd (by omega) (by omega)
  have hcall3 := fun (w1 : World) (hb : Below w.heap.size w w1) => Put.calls p A c l P d B b y w1 (Kd.C_below hC hb) hc (Kd.C_below hP hb) hd (Kd.C_below hY hb) hy (by omega) (by omega)
  have hcall4 := fun (w1 : World) (hb : Below w.heap.size w w1) => rPut.calls p A c l P d B b y w1 (Kd.C_below hC hb) hc (Kd.C_below hP hb) hd (Kd.C_below hY hb) hy (by omega) (by omega)
  rw [← hv] at hk1; rw [← hq] at hk2; simp only [atR_eq] at hcall1; simp only [← hv, ← hvo] at hcall1 hcall2; simp only [← hq, ← hqo] at hcall3 hcall4; have hcall0 := Small.calls 1000 (some ⟨w.heap.size, 0, none⟩) 2 2 [l, y] _ (rows2 hC hc hY hy) rfl (Nat.le_refl _); have hbb : Below w.heap.size w (w.alloc (.cells #[.slice A l.length c, .slice B y.length b] 22)) := (Below.refl _ _).alloc (Nat.le_refl _) _; obtain ⟨W0, hW0⟩ : ∃ W0, w.alloc (.cells #[.slice A l.length c, .slice B y.length b] 22) = W0 := ⟨_, rfl⟩; rw [hW0] at hcall0 hbb; obtain ⟨sb, hsb⟩ : ∃ b, b = (cntAll 1000 [l, y]).1 := ⟨_, rfl⟩; rw [← hsb] at hcall0; have HW0 := Aside0.mk hW0; have HBL := Aside0.mk hbb; have HCALL0 := Aside0.mk hcall0; have HC1 := Aside0.mk hcall1; have HC2 := Aside0.mk hcall2; have HC3 := Aside0.mk hcall3; have HC4 := Aside0.mk hcall4; have HK1 := Aside0.mk hk1; have HK2 := Aside0.mk hk2
  have evo : ((vo : Bool) == vo) = true := by simp
  have evq : ((qo : Bool) == qo) = true := by simp
  obtain ⟨m, hm⟩ : ∃ m, m = p.length := ⟨_, rfl⟩; rw [← hm] at HC1 HC2 HC3 HC4 ⊢; clear hC hc hP hd hY hy ok ok2 hb hk1 hk2 hcall0 hcall1 hcall2 hcall3 hcall4 hbb hW0 hsb hv hvo hq hqo h1s hm
  go_enter Try.func7, Try.ntmps7
  go_wp2_with fail
  rw [HW0.out]; refine HCALL0.out.mono ?_; rintro e w1 ⟨rfl, hb1⟩; have HB1 := Aside0.mk (q14 HBL.out hb1); clear hb1
  cases sb with
  | false =>
    go_wp2_with fail
    refine (awake.calls w1).mono ?_; rintro e w2 ⟨rfl, hb2⟩; have HB2 := Aside0.mk (q14 HB1.out hb2); clear hb2
    go_wp2_with fail
    go_ret; exact ⟨rfl, HB2.out⟩
  | true =>
    by_cases hs : m > 200
    · have hs1 : (decide ((m : Int) > 200)) = true := by simp; omega
      have hs2 : ((m : Int) > 200) = True := by simp; omega
      have hs3 : decide (200 < m) = true := by simp; omega
      clear hs
      go_wp2_with fail
      refine (awake.calls w1).mono ?_; rintro e w2 ⟨rfl, hb2⟩; have HB2 := Aside0.mk (q14 HB1.out hb2); clear hb2
      go_wp2_with fail
      go_ret; exact ⟨rfl, HB2.out⟩
    · have hs1 : (decide ((m : Int) > 200)) = false := by simp; omega
      have hs2 : ((m : Int) > 200) = False := by simp; omega
      have hs3 : decide (200 < m) = false := by simp; omega
      clear hs
      go_wp2_with fail
      refine (HC1.out w1 HB1.out).mono ?_; rintro e w2 ⟨A1, c1, rfl, hl1, hR1, hb2⟩; have HL1 := Aside0.mk hl1; have HR1 := Aside0.mk hR1; have HB2 := Aside0.mk (q14 HB1.out hb2); have hna := World.alloc_heap_new w2 (.cells #[.int .i64 v.f0, .string v.f1, .slice A1 v.f2.length c1] 42); have hba : Below w2.heap.size w2 (w2.alloc (.cells #[.int .i64 v.f0, .string v.f1, .slice A1 v.f2.length c1] 42)) := (Below.refl _ _).alloc (Nat.le_refl _) _; obtain ⟨W3, hW3⟩ : ∃ W3, w2.alloc (.cells #[.int .i64 v.f0, .string v.f1, .slice A1 v.f2.length c1] 42) = W3 := ⟨_, rfl⟩; have HW3 := Aside0.mk hW3; rw [hW3] at hna hba; have HN3 := Aside0.mk hna; have HB3 := Aside0.mk (q14 HB2.out hba); have HR3 := Aside0.mk (Kd.C_below HR1.out hba); clear hl1 hR1 hb2 hna hba hW3
      go_wp2_with fail
      rw [HW3.out]; refine (HC2.out W3 HB3.out).mono ?_; rintro e w4 ⟨A2, c2, rfl, hl2, hR2, hb4⟩; have HL2 := Aside0.mk hl2; have HR4 := Aside0.mk (hR2 w4 (fun _ _ => rfl)); have HB4 := Aside0.mk (q14 HB3.out hb4); have HU4 := Aside0.mk hb4; have hna := World.alloc_heap_new w4 (.cells #[.int .i64 v.f0, .string v.f1, .slice A2 v.f2.length c2] 42); have hba : Below w4.heap.size w4 (w4.alloc (.cells #[.int .i64 v.f0, .string v.f1, .slice A2 v.f2.length c2] 42)) := (Below.refl _ _).alloc (Nat.le_refl _) _; obtain ⟨W5, hW5⟩ : ∃ W5, w4.alloc (.cells #[.int .i64 v.f0, .string v.f1, .slice A2 v.f2.length c2] 42) = W5 := ⟨_, rfl⟩; have HW5 := Aside0.mk hW5; rw [hW5] at hna hba; have HN5 := Aside0.mk hna; have HB5 := Aside0.mk (q14 HB4.out hba); have HU5 := Aside0.mk (q14 HU4.out hba); have HR5 := Aside0.mk (Kd.C_below HR4.out hba); clear hl2 hR2 hb4 hna hba hW5
      go_wp2_with fail
      rw [HW5.out]; refine (HC3.out W5 HB5.out).mono ?_; rintro e w6 ⟨A6, c6, rfl, hl6, hR6, hb6⟩; have HL6 := Aside0.mk hl6; have HR6 := Aside0.mk hR6; have HB6 := Aside0.mk (q14 HB5.out hb6); have HU6 := Aside0.mk (q14 HU5.out hb6); have HV6 := Aside0.mk hb6; clear hl6 hR6 hb6
      go_wp2_with fail
      refine (HC4.out w6 HB6.out).mono ?_; rintro e w7 ⟨A7, c7, rfl, hR7, hb7⟩; obtain ⟨_, hl7, hC7⟩ := Kd.N_reads' hR7; have HL7 := Aside0.mk hl7; have HR7 := Aside0.mk hC7; have HR67 := Aside0.mk (Kd.C_below HR6.out hb7); have HB7 := Aside0.mk (q14 HB6.out hb7); have HU7 := Aside0.mk (q14 HU6.out hb7); have HV7 := Aside0.mk (q14 HV6.out hb7); have hm7 := (HU7.out.block _ (Array.getElem?_eq_some_iff.1 HN3.out).1).trans HN3.out; have hn7 := (HV7.out.block _ (Array.getElem?_eq_some_iff.1 HN5.out).1).trans HN5.out; have x0 : w7.cell? ⟨w2.heap.size, 0, none⟩ = some (.int .i64 v.f0) := (q5 hm7 0).trans rfl; have x1 : w7.cell? ⟨w2.heap.size, 1, none⟩ = some (.string v.f1) := (q5 hm7 1).trans rfl; have x2 : w7.cell? ⟨w2.heap.size, 2, none⟩ = some (.slice A1 v.f2.length c1) := (q5 hm7 2).trans rfl; have y0 : w7.cell? ⟨w4.heap.size, 0, none⟩ = some (.int .i64 v.f0) := (q5 hn7 0).trans rfl; have y1 : w7.cell? ⟨w4.heap.size, 1, none⟩ = some (.string v.f1) := (q5 hn7 1).trans rfl; have y2 : w7.cell? ⟨w4.heap.size, 2, none⟩ = some (.slice A2 v.f2.length c2) := (q5 hn7 2).trans rfl; have l2 : w2.heap.size < w7.heap.size := (Array.getElem?_eq_some_iff.1 hm7).1; have l4 : w4.heap.size < w7.heap.size := (Array.getElem?_eq_some_iff.1 hn7).1; clear hR7 hl7 hC7 hb7 hm7 hn7
      go_wp2_with fail
      have hp1 := World.alloc_heap_new w7 (.cells #[.int .i64 v.f0, .string v.f1, .slice A1 v.f2.length c1] 42); have hp2 : Below w7.heap.size w7 (w7.alloc (.cells #[.int .i64 v.f0, .string v.f1, .slice A1 v.f2.length c1] 42)) := (Below.refl _ _).alloc (Nat.le_refl _) _
      have hps : (w7.alloc (.cells #[.int .i64 v.f0, .string v.f1, .slice A1 v.f2.length c1] 42)).heap.size = w7.heap.size + 1 := by simp
      obtain ⟨W8, hW8⟩ : ∃ W8, w7.alloc (.cells #[.int .i64 v.f0, .string v.f1, .slice A1 v.f2.length c1] 42) = W8 := ⟨_, rfl⟩; rw [hW8] at hp1 hp2 hps ⊢; rw [← hps]; have hp3 := World.alloc_heap_new W8 (.cells #[.int .i64 v.f0, .string v.f1, .slice A2 v.f2.length c2] 42); have hp4 : Below W8.heap.size W8 (W8.alloc (.cells #[.int .i64 v.f0, .string v.f1, .slice A2 v.f2.length c2] 42)) := (Below.refl _ _).alloc (Nat.le_refl _) _; obtain ⟨W9, hW9⟩ : ∃ W9, W8.alloc (.cells #[.int .i64 v.f0, .string v.f1, .slice A2 v.f2.length c2] 42) = W9 := ⟨_, rfl⟩; rw [hW9] at hp3 hp4 ⊢; have hp5 := (hp4.block _ (Array.getElem?_eq_some_iff.1 hp1).1).trans hp1; have h79 := q14 hp2 hp4; have HB9 := Aside0.mk (q14 HB7.out h79); have HR9 := Aside0.mk (Kd.C_below HR7.out h79); have HR69 := Aside0.mk (Kd.C_below HR67.out h79); have hu9 := q14 HU7.out h79; have hv9 := q14 HV7.out h79; clear hps hW8 hW9; refine (chiasmusref01_Equal.calls k1 _ 1 [v] _ 1 [v] true W9 (one_C (x := v) hp5 (Kd.C_below HR3.out hu9) HL1.out) (Nat.le_refl _) (one_C (x := v) hp3 (Kd.C_below HR5.out hv9) HL2.out) (Nat.le_refl _) HK1.out).mono ?_; rintro e w10 ⟨rfl, hb10⟩; have HB10 := Aside0.mk (q14 HB9.out hb10); have HR10 := Aside0.mk (Kd.C_below HR9.out hb10); have HR610 := Aside0.mk (Kd.C_below HR69.out hb10); clear hb10 hp1 hp2 hp3 hp4 hp5 h79 hu9 hv9 x0 x1 x2 y0 y1 y2 l2 l4
      go_wp2_with fail
      refine (chiasmusref01_Equal.calls k2 A6 c6 q A7 c7 q true w10 HR610.out HL6.out HR10.out HL7.out HK2.out).mono ?_; rintro e w11 ⟨rfl, hb11⟩; have HB11 := Aside0.mk (q14 HB10.out hb11); clear hb11
      go_wp2_with fail
      refine (awake.calls w11).mono ?_; rintro e w12 ⟨rfl, hb12⟩; have HB12 := Aside0.mk (q14 HB11.out hb12); clear hb12
      go_wp2_with fail
      go_ret; exact ⟨rfl, HB12.out⟩
end Go.Proofs.Ytdbjjaodkapikaa.TE
