/- The reference's At. -/
import Derived.Test.YtdbjjaodkapikaaKTEPl1
import Derived.Test.YtdbjjaodkapikaaKTEx15
namespace Go.Proofs.Ytdbjjaodkapikaa.TE
open Go.RowKit Go.Shelf Go.Proofs.YtdbjjaodkapikaaW.PrintWords Go.Proofs.YtdbjjaodkapikaaW.PrintLast Go.Proofs.YtdbjjaodkapikaaW.PrintMore Go.Proofs.Ytdbjjaodkapikaa.Evs
set_option linter.unusedVariables false
set_option linter.unusedSimpArgs false
theorem rcopy_loop {x0 : List S42} (hb : x0.length ≤ 1099511627776) : ∀ (r : List S42) (n : Nat) (a : List S42), x0.drop n = r → a.length + r.length ≤ 1099511627776 → (∀ x ∈ r, Evt (fun k => chiasmusref01_Copy.f k x.f2) x.f2) →
    Evt (fun k => chiasmusref01_Copy.l0 k x0 a (n : Int)) (a ++ r)
  | [], n, a, h, _, _ => by
    refine Evt.succ ?_; simp only [chiasmusref01_Copy.l0, if_neg (stop h)]; exact (Evt.const _).eq (by simp)
  | x :: r, n, a, h, ha, hk => by
    obtain ⟨h1, h2, h3, h4, h5⟩ := mid h hb; simp only [List.length_cons] at ha
    have hx : (⟨x.f0, x.f1, x.f2⟩ : S42) = x := by cases x; rfl
    have ih : Evt (fun k => chiasmusref01_Copy.l0 k x0 (a ++ [x]) ((n + 1 : Nat) : Int)) (a ++ x :: r) :=
      (rcopy_loop hb r (n + 1) (a ++ [x]) h4 (by simp; omega) fun y hy => hk y (List.mem_cons_of_mem _ hy)).eq (by simp)
    refine Evt.succ ?_; simp only [chiasmusref01_Copy.l0, if_pos h1, if_pos h2, rd_mid h3, h5]
    by_cases c : (x.f2.length : Int) > 0
    · simp only [if_pos c]; refine Evt.bind (hk x List.mem_cons_self) ?_; simp only [if_pos (show a.length < 2932031007402 by omega), hx]; exact ih
    · have hn : x.f2 = [] := List.length_eq_zero_iff.1 (by omega)
      have hx' : (⟨x.f0, x.f1, []⟩ : S42) = x := by cases x; simp only at hn; rw [hn]
      simp only [if_neg c, if_pos (show a.length < 2932031007402 by omega), hx']; exact ih
theorem rcopy_ev : ∀ (n : Nat) (l : List S42), bk42s l ≤ n → n ≤ 1099511627776 → Evt (fun k => chiasmusref01_Copy.f k l) l := by
  intro n
  induction n using Nat.strongRecOn with
  | _ n ih =>
    intro l h hn; have := bk_len l; refine Evt.succ ?_; simp only [chiasmusref01_Copy.f]
    exact (rcopy_loop (by omega) l 0 [] rfl (by simp; omega) fun x hx => by
      have := bk_mem hx
      exact ih (bk42s x.f2) (by omega) x.f2 (Nat.le_refl _) (by omega)).eq (by simp)
theorem one_C {w : World} {b : Nat} {x : Tm} {A : Option Addr} {c : Nat} (h : w.heap[b]? = some (.cells #[.int .i64 x.f0, .string x.f1, .slice A x.f2.length c] 42 (0, 0))) (hA : Kd.C k42 w A x.f2.length x.f2) (hc : x.f2.length ≤ c) :
    Kd.C k42 w (some ⟨b, 0, none⟩) 1 [x] := by
  refine ⟨rfl, by decide, fun _ => ⟨_, rfl, fun j p hp => ?_⟩⟩
  have hj : j = 0 := by
    rcases Nat.eq_zero_or_pos j with h | h
    · exact h
    · rw [List.getElem?_eq_none (by simp; omega)] at hp; simp at hp
  subst hj
  obtain rfl : x = p := by simpa using hp
  refine ⟨[.int .i64 x.f0, .string x.f1, .slice A x.f2.length c], rfl, ?_, fun i u hu => ?_⟩
  · exact k42_mk w x hc hA
  · rw [add_plain]; refine (q9 h _).trans ?_
    match i, hu with
    | 0, hu => exact hu
    | 1, hu => exact hu
    | 2, hu => exact hu
theorem own_one {W : World} {base : Nat} {v : Value} {z : Tm} (h : k42.R 42 W base (fun _ => True) v [z]) :
    ∃ g c A4 c4, v = .slice (some ⟨g, 0, none⟩) 1 c ∧ 1 ≤ c ∧ base ≤ g ∧ W.cell? ⟨g, 0, none⟩ = some (.int .i64 z.f0) ∧ W.cell? ⟨g, 1, none⟩ = some (.string z.f1) ∧ W.cell? ⟨g, 2, none⟩ = some (.slice A4 z.f2.length c4) ∧ z.f2.length ≤ c4 ∧
      ∀ W', (∀ k, base ≤ k → W'.heap[k]? = W.heap[k]?) → k42.C W' A4 z.f2.length z.f2 := by
  obtain ⟨ad, c, rfl⟩ := Kd.R_slice1 h (by simp); have h' : k42.R 42 W base (fun _ => True) (.slice (some ad) 1 c) [z] := h; obtain ⟨g, rfl⟩ := Kd.R_head h'; have hc := (Kd.R_reads' h').2.1
  have hg : base ≤ g := (Kd.R_bound h').1 g (by simp [Value.ownBlock]) |>.2.1
  obtain ⟨cs, hcl, hM, hcc⟩ := Kd.R_get h' z 0 (by omega) (by omega); have hM' : k42.M W base (fun k => True ∧ some k ≠ (Value.slice (some ⟨g, 0, none⟩) 1 c).ownBlock) z cs := hM; obtain ⟨v2, rfl, hR⟩ := k42_openM hM'; obtain ⟨A4, c4, rfl, hl, _⟩ := Kd.R_reads hR
  have cell : ∀ j u, ([.int .i64 z.f0, .string z.f1, .slice A4 z.f2.length c4] : List Value)[j]? = some u → W.cell? ⟨g, j, none⟩ = some u := fun j u hu => by
    have := hcc j u hu; rw [add_plain] at this
    simpa using this
  refine ⟨g, c, A4, c4, rfl, hc, hg, cell 0 _ rfl, cell 1 _ rfl, cell 2 _ rfl, hl, fun W' hW => ?_⟩; exact (Kd.R_reads' (Kd.R_step (Kd.R_bound hR) (fun k hk _ => hW k hk.2.1))).2.2
def rA : List Int → List Tm → Option Tm
  | [], _ => none
  | i :: r, l => if h : 0 ≤ i ∧ i.toNat < l.length then (if r = [] then some (l[i.toNat]'h.2) else rA r (l[i.toNat]'h.2).f2) else none
def rAR (p : List Int) (l : List Tm) : Tm × Bool :=
  match rA p l with
  | none => (z42, false)
  | some x => (x, true)
theorem goP_rA : ∀ (p : List Int) (l : List Tm) (x : Tm), p ≠ [] → goP l p x = rA p l
  | [], l, x, h => absurd rfl h
  | i :: r, l, x, _ => by
    rw [goP, rA]
    by_cases h : 0 ≤ i ∧ i.toNat < l.length
    · rw [dif_pos h, dif_pos h]
      by_cases hr : r = []
      · rw [if_pos hr, hr, goP]
      · rw [if_neg hr, goP_rA r _ _ hr]
    · rw [dif_neg h, dif_neg h]
theorem atR_eq (l : List Tm) (p : List Int) : atR l p = rAR p l := by
  unfold atR rAR
  cases p with
  | nil => rfl
  | cons i r =>
    rw [goP_rA _ _ _ (by simp)]
    cases rA (i :: r) l <;> rfl
theorem rat_results {tmps : Array Value} {W : World} {b : Nat} {k : Int} {t : ByteArray} {u : Value} {v : Bool} (h2 : tmps.getD 4 undef = .pointer (some ⟨b, 0, none⟩)) (h3 : tmps.getD 5 undef = .bool v) (x0 : W.cell? ⟨b, 0, none⟩ = some (.int .i64 k)) (x1 : W.cell? ⟨b, 1, none⟩ = some (.string t)) (x2 : W.cell? ⟨b, 2, none⟩ = some u) :
    (results Try.f32 tmps).run Try.prog W = .ok (.tuple #[.agg #[.int .i64 k, .string t, u], .bool v]) W := by
  have h2' : tmps[4]?.getD undef = .pointer (some ⟨b, 0, none⟩) := by simpa using h2
  have h3' : tmps[5]?.getD undef = .bool v := by simpa using h3
  have hu := Try.underlying42; simp [results, Try.results32, h2', h3', go_sem, x0, x1, x2]
set_option maxRecDepth 100000 in
set_option maxHeartbeats 4000000 in
theorem rAt.calls : ∀ (p : List Int) (A : Option Addr) (c : Nat) (l : List Tm) (P : Option Addr) (d : Nat) (w : World) (hC : Kd.C k42 w A l.length l) (hc : l.length ≤ c) (hP : Kd.C (Kd.int .i64) w P p.length p) (hd : p.length ≤ d) (hpl : p.length ≤ 1048576) (hb : bk42s l ≤ 1048576),
    Calls Try.prog 32 #[.slice A l.length c, .slice P p.length d] w fun e w' => ∃ A' c', e = .returned (.tuple #[.agg #[.int .i64 (rAR p l).1.f0, .string (rAR p l).1.f1, .slice A' (rAR p l).1.f2.length c'], .bool (rAR p l).2]) ∧ (rAR p l).1.f2.length ≤ c' ∧ (∀ W', (∀ k, w.heap.size < k → W'.heap[k]? = w'.heap[k]?) → Kd.C k42 W' A' (rAR p l).1.f2.length (rAR p l).1.f2) ∧ Below w.heap.size w w' := by
  intro p
  induction p with
  | nil =>
    intro A c l P d w hC hc hP hd hpl hb; have hb0 : Below w.heap.size w (w.alloc (.cells #[.int .i64 0, .string ⟨#[]⟩, .slice none 0 0] 42)) := (Below.refl _ _).alloc (Nat.le_refl _) _; have hn0 := World.alloc_heap_new w (.cells #[.int .i64 0, .string ⟨#[]⟩, .slice none 0 0] 42); obtain ⟨W0, hW0⟩ : ∃ W0, w.alloc (.cells #[.int .i64 0, .string ⟨#[]⟩, .slice none 0 0] 42) = W0 := ⟨_, rfl⟩; rw [hW0] at hb0 hn0; have HW0 := Aside0.mk hW0; have HN0 := Aside0.mk hn0; have HB0 := Aside0.mk hb0; clear hW0 hC hc hP hd hpl hb hb0; have x0 : W0.cell? ⟨w.heap.size, 0, none⟩ = some (.int .i64 0) := (q9 hn0 0).trans rfl; have x1 : W0.cell? ⟨w.heap.size, 1, none⟩ = some (.string ⟨#[]⟩) := (q9 hn0 1).trans rfl; have x2 : W0.cell? ⟨w.heap.size, 2, none⟩ = some (.slice none 0 0) := (q9 hn0 2).trans rfl; have f0 : W0.frozen? ⟨w.heap.size, 0, none⟩ = false := q15 hn0 0; have f1 : W0.frozen? ⟨w.heap.size, 1, none⟩ = false := q15 hn0 1; have f2 : W0.frozen? ⟨w.heap.size, 2, none⟩ = false := q15 hn0 2; clear hn0
    go_enter Try.func32, Try.ntmps32
    go_wp2_with fail
    rw [HW0.out]
    go_wp2_with fail
    refine bodyPost_ret (rat_results (b := w.heap.size) rfl rfl ((q9 HN0.out 0).trans rfl) ((q9 HN0.out 1).trans rfl) ((q9 HN0.out 2).trans rfl)) rfl ?_; exact ⟨none, 0, rfl, Nat.le_refl _, fun _ _ => Kd.C_nil _ _, HB0.out⟩
  | cons i r ih =>
    intro A c l P d w hC hc hP hd hpl hb; obtain ⟨pad, rfl, hpc⟩ := Kd.at_int hP (0 : Int) (by omega) (by simp only [List.length_cons]; omega); rw [show pad.add (Int.toNat 0) = pad from by simp [Addr.add]] at hpc
    have hrd : rd (i :: r) (0 : Int) = i := by simp [rd]
    rw [hrd] at hpc; obtain ⟨m, hm⟩ : ∃ m, m = (i :: r).length := ⟨_, rfl⟩
    have hm0 : 0 < m := by rw [hm]; simp
    have hmr : m = r.length + 1 := by rw [hm]; simp
    rw [← hm] at hd hpl ⊢; have hb0 : Below w.heap.size w (w.alloc (.cells #[.int .i64 0, .string ⟨#[]⟩, .slice none 0 0] 42)) := (Below.refl _ _).alloc (Nat.le_refl _) _; have hn0 := World.alloc_heap_new w (.cells #[.int .i64 0, .string ⟨#[]⟩, .slice none 0 0] 42); obtain ⟨W0, hW0⟩ : ∃ W0, w.alloc (.cells #[.int .i64 0, .string ⟨#[]⟩, .slice none 0 0] 42) = W0 := ⟨_, rfl⟩; rw [hW0] at hb0 hn0; replace hpc := (hb0.cell (World.block_lt_of_cell? w _ hpc)).trans hpc; have HW0 := Aside0.mk hW0; have HN0 := Aside0.mk hn0; have HB0 := Aside0.mk hb0; have HC := Aside0.mk hC; have HCC := Aside0.mk hc; have HP := Aside0.mk hP; have HD := Aside0.mk hd; have HM := Aside0.mk hm; have HMR := Aside0.mk hmr; have HPL := Aside0.mk hpl; have HBK := Aside0.mk hb; have IH := Aside0.mk ih; have x0 : W0.cell? ⟨w.heap.size, 0, none⟩ = some (.int .i64 0) := (q9 hn0 0).trans rfl; have x1 : W0.cell? ⟨w.heap.size, 1, none⟩ = some (.string ⟨#[]⟩) := (q9 hn0 1).trans rfl; have x2 : W0.cell? ⟨w.heap.size, 2, none⟩ = some (.slice none 0 0) := (q9 hn0 2).trans rfl; have f0 : W0.frozen? ⟨w.heap.size, 0, none⟩ = false := q15 hn0 0; have f1 : W0.frozen? ⟨w.heap.size, 1, none⟩ = false := q15 hn0 1; have f2 : W0.frozen? ⟨w.heap.size, 2, none⟩ = false := q15 hn0 2
    have e0 : (((m : Nat) : Int) == 0) = false := by simp; omega
    have m1 : (0 : Int) < (m : Int) := by omega
    clear hW0 hn0 hb0 hC hc hP hd hm hmr hpl hb ih hrd
    by_cases hin : 0 ≤ i ∧ i.toNat < l.length
    · obtain ⟨hi0, hi1⟩ := hin; have e1 : decide ((i : Int) < 0) = false := decide_eq_false (by omega); have e2 : decide ((i : Int) ≥ (l.length : Int)) = false := decide_eq_false (by omega)
      have hilt : (i : Int) < (l.length : Int) := by omega
      obtain ⟨ad, A3, c3, rfl, hx0, hx1, hx2, hl3, hr3⟩ := at_T42 HC.out i hi0 (by omega); have hx : l[i.toNat]? = some (l[i.toNat]'hi1) := List.getElem?_eq_getElem hi1; have hmem : l[i.toNat]'hi1 ∈ l := List.getElem_mem hi1; have HZ : Aside0 (rA (i :: r) l = if r = [] then some (l[i.toNat]'hi1) else rA r (l[i.toNat]'hi1).f2) := ⟨by rw [rA, dif_pos ⟨hi0, hi1⟩]⟩; obtain ⟨z, hz⟩ : ∃ z, z = l[i.toNat]'hi1 := ⟨_, rfl⟩; rw [← hz] at hx hmem HZ
      have hrd : rd_T42 l i = z := by simp [rd_T42, List.getD_eq_getElem?_getD, hx]
      rw [hrd] at hx0 hx1 hx2 hl3 hr3; replace hx0 := (HB0.out.cell (World.block_lt_of_cell? w _ hx0)).trans hx0; replace hx1 := (HB0.out.cell (World.block_lt_of_cell? w _ hx1)).trans hx1; replace hx2 := (HB0.out.cell (World.block_lt_of_cell? w _ hx2)).trans hx2; have HL3 := Aside0.mk hl3; have HR3 := Aside0.mk hr3; have HMEM := Aside0.mk hmem; have hb1 : Below W0.heap.size W0 (W0.alloc (.cells #[.int .i64 z.f0, .string z.f1, .slice A3 z.f2.length c3] 42)) := (Below.refl _ _).alloc (Nat.le_refl _) _; have hn1 := World.alloc_heap_new W0 (.cells #[.int .i64 z.f0, .string z.f1, .slice A3 z.f2.length c3] 42); obtain ⟨W1, hW1⟩ : ∃ W1, W0.alloc (.cells #[.int .i64 z.f0, .string z.f1, .slice A3 z.f2.length c3] 42) = W1 := ⟨_, rfl⟩; rw [hW1] at hb1 hn1; have HW1 := Aside0.mk hW1; have HN1 := Aside0.mk hn1; have HB1 := Aside0.mk hb1; have HBB1 := Aside0.mk (q14 HB0.out hb1); have HO1 := Aside0.mk ((hb1.block _ (Array.getElem?_eq_some_iff.1 HN0.out).1).trans HN0.out); clear hz hx hrd hl3 hr3 hi1 hmem hb1 hn1 hW1
      go_enter Try.func32, Try.ntmps32
      go_upto_region 1 with fail
      rw [HW0.out]
      go_upto_region 4 with fail
      rw [HW1.out]
      rcases r with _ | ⟨i', r'⟩
      · have e3 : (((m : Nat) : Int) == 1) = true := by have := HMR.out; simp at this; simp [this]
        have hmr : m = 1 := by have := HMR.out; simpa using this
        have HR : Aside0 (rAR [i] l = (z, true)) := ⟨by unfold rAR; rw [HZ.out, if_pos rfl]⟩; obtain ⟨k1, hk1⟩ := (rcopy_ev _ [z] (Nat.le_refl _) (by have h1 := bk_mem HMEM.out; have h2 := HBK.out; have h3 : bk42s [z] = bk42 z := (by simp [bk42s]); have h4 := bk42_eq z; omega)).get; have HK1 := Aside0.mk hk1; have y0 : W1.cell? ⟨W0.heap.size, 0, none⟩ = some (.int .i64 z.f0) := (q9 HN1.out 0).trans rfl; have y1 : W1.cell? ⟨W0.heap.size, 1, none⟩ = some (.string z.f1) := (q9 HN1.out 1).trans rfl; have y2 : W1.cell? ⟨W0.heap.size, 2, none⟩ = some (.slice A3 z.f2.length c3) := (q9 HN1.out 2).trans rfl; have hb2 : Below W1.heap.size W1 (W1.alloc (.cells #[.int .i64 z.f0, .string z.f1, .slice A3 z.f2.length c3] 42)) := (Below.refl _ _).alloc (Nat.le_refl _) _; have hn2 := World.alloc_heap_new W1 (.cells #[.int .i64 z.f0, .string z.f1, .slice A3 z.f2.length c3] 42); obtain ⟨W2, hW2⟩ : ∃ W2, W1.alloc (.cells #[.int .i64 z.f0, .string z.f1, .slice A3 z.f2.length c3] 42) = W2 := ⟨_, rfl⟩; rw [hW2] at hb2 hn2; have HW2 := Aside0.mk hW2; have HN2 := Aside0.mk hn2; have HB2 := Aside0.mk (q14 HBB1.out hb2); have HO2 := Aside0.mk ((hb2.block _ (Array.getElem?_eq_some_iff.1 HO1.out).1).trans HO1.out); clear hb2 hn2 hW2 hk1 x0 x1 x2 f0 f1 f2 hx0 hx1 hx2 hpc; subst hmr
        go_wp2_with fail
        rw [HW2.out]; refine (chiasmusref01_Copy.calls k1 _ 1 [z] [z] W2 (one_C (x := z) HN2.out (Kd.C_below HR3.out HB2.out) HL3.out) (Nat.le_refl _) HK1.out).mono ?_; rintro e w3 ⟨v, rfl, hR, hb3⟩; obtain ⟨g, ct, A4, c4, rfl, hct, hg, q0, q1, q2, hl4, hr4⟩ := own_one hR; have HO3 := Aside0.mk ((hb3.block _ (Array.getElem?_eq_some_iff.1 HO2.out).1).trans HO2.out); have HB3 := Aside0.mk (q14 HB2.out hb3); have HL4 := Aside0.mk hl4; have HR4 := Aside0.mk hr4; have f0 : w3.frozen? ⟨w.heap.size, 0, none⟩ = false := q15 HO3.out 0; have f1 : w3.frozen? ⟨w.heap.size, 1, none⟩ = false := q15 HO3.out 1; have f2 : w3.frozen? ⟨w.heap.size, 2, none⟩ = false := q15 HO3.out 2; have x0 : w3.cell? ⟨w.heap.size, 0, none⟩ = some (.int .i64 0) := (q9 HO3.out 0).trans rfl; have x1 : w3.cell? ⟨w.heap.size, 1, none⟩ = some (.string ⟨#[]⟩) := (q9 HO3.out 1).trans rfl; have x2 : w3.cell? ⟨w.heap.size, 2, none⟩ = some (.slice none 0 0) := (q9 HO3.out 2).trans rfl; have HG : Aside0 (w.heap.size < W2.heap.size) := ⟨(Array.getElem?_eq_some_iff.1 HO2.out).1⟩; clear hR hb3 hg hl4 hr4
        go_wp2_with fail
        refine bodyPost_ret (rat_results (b := w.heap.size) rfl rfl ((q9 (blk3 HO3.out) 0).trans rfl) ((q9 (blk3 HO3.out) 1).trans rfl) ((q9 (blk3 HO3.out) 2).trans rfl)) rfl ?_; rw [HR.out]; exact ⟨A4, c4, rfl, HL4.out, fun W' hW => HR4.out _ (fun k hk => (hW k (by have := HG.out; omega)).trans (oth3 (by have := HG.out; omega))), below3 HB3.out⟩
      · have e3 : (((m : Nat) : Int) == 1) = false := by have := HMR.out; simp at this; simp; omega
        have m2 : (1 : Int) < (m : Int) := by have := HMR.out; simp at this; omega
        have y0 : W1.cell? ⟨W0.heap.size, 0, none⟩ = some (.int .i64 z.f0) := (q9 HN1.out 0).trans rfl; have y1 : W1.cell? ⟨W0.heap.size, 1, none⟩ = some (.string z.f1) := (q9 HN1.out 1).trans rfl; have y2 : W1.cell? ⟨W0.heap.size, 2, none⟩ = some (.slice A3 z.f2.length c3) := (q9 HN1.out 2).trans rfl; clear x0 x1 x2 f0 f1 f2 hx0 hx1 hx2 hpc; have HR : Aside0 (rAR (i :: i' :: r') l = rAR (i' :: r') z.f2) := ⟨by unfold rAR; rw [HZ.out, if_neg (by simp)]⟩
        have HIH : Aside0 (∀ (P : Option Addr) (n d : Nat) (W : World), n = (i' :: r').length → Kd.C k42 W A3 z.f2.length z.f2 → Kd.C (Kd.int .i64) W P n (i' :: r') → n ≤ d →
            Calls Try.prog 32 #[.slice A3 z.f2.length c3, .slice P n d] W fun e w' => ∃ A' c', e = .returned (.tuple #[.agg #[.int .i64 (rAR (i' :: r') z.f2).1.f0, .string (rAR (i' :: r') z.f2).1.f1, .slice A' (rAR (i' :: r') z.f2).1.f2.length c'], .bool (rAR (i' :: r') z.f2).2]) ∧ (rAR (i' :: r') z.f2).1.f2.length ≤ c' ∧ (∀ W', (∀ k, W.heap.size < k → W'.heap[k]? = w'.heap[k]?) → Kd.C k42 W' A' (rAR (i' :: r') z.f2).1.f2.length (rAR (i' :: r') z.f2).1.f2) ∧ Below W.heap.size W w') :=
          ⟨fun P n d W hn h1 h2 h3 => by subst hn; exact IH.out A3 c3 z.f2 P d W h1 HL3.out h2 h3 (by have := HPL.out; have := HMR.out; omega) (by have := bk_mem HMEM.out; have := HBK.out; omega)⟩
        have HT : Aside0 (Kd.C (Kd.int .i64) w (some (pad.add 1)) (m - 1) (i' :: r')) := ⟨by
          have h := Kd.C_drop (c := d) HP.out (m := 1) (by simp) (by rw [← HM.out]; exact HD.out); rw [if_neg (by have := HD.out; omega)] at h
          have hm1 : m - 1 = (i' :: r').length := by have := HMR.out; omega
          rw [hm1]; exact h⟩
        have hpa : pad.add 1 = ⟨pad.block, pad.off + 1, none⟩ := by simp [Addr.add]
        rw [hpa] at HT; have HD1 : Aside0 (m ≤ d ∧ m - 1 = (i' :: r').length) := ⟨HD.out, by have := HMR.out; omega⟩; have hmd : m ≤ d := HD.out
        have hd1 : 1 < d := by omega
        have hd2 : (d = 1) = False := by simp; omega
        have hd3 : (d == 1) = false := by simp; omega
        go_wp2_with fail
        go_region_with (go_at_call 32; refine (HIH.out _ (m - 1) (d - 1) _ HD1.out.2 (Kd.C_below HR3.out (q26 HBB1.out)) (Kd.C_below HT.out (q26 HBB1.out)) (by have := HD1.out; omega)).mono ?_; rintro e w3 ⟨A', c', rfl, hl', hC', hb3⟩; have HO3 := Aside0.mk ((hb3.block _ (Array.getElem?_eq_some_iff.1 HO1.out).1).trans HO1.out); have HL' := Aside0.mk hl'; have HC' := Aside0.mk hC'; have HB3 := Aside0.mk (q14 (q26 HBB1.out) hb3); have f0 : w3.frozen? ⟨w.heap.size, 0, none⟩ = false := q15 HO3.out 0; have f1 : w3.frozen? ⟨w.heap.size, 1, none⟩ = false := q15 HO3.out 1; have f2 : w3.frozen? ⟨w.heap.size, 2, none⟩ = false := q15 HO3.out 2; have x0 : w3.cell? ⟨w.heap.size, 0, none⟩ = some (.int .i64 0) := (q9 HO3.out 0).trans rfl; have x1 : w3.cell? ⟨w.heap.size, 1, none⟩ = some (.string ⟨#[]⟩) := (q9 HO3.out 1).trans rfl; have x2 : w3.cell? ⟨w.heap.size, 2, none⟩ = some (.slice none 0 0) := (q9 HO3.out 2).trans rfl; clear hl' hC' hb3)
        go_wp2_with fail
        all_goals
          refine bodyPost_ret (rat_results (b := w.heap.size) rfl rfl ((q9 (blk3 HO3.out) 0).trans rfl) ((q9 (blk3 HO3.out) 1).trans rfl) ((q9 (blk3 HO3.out) 2).trans rfl)) rfl ?_; rw [HR.out]; exact ⟨A', c', rfl, HL'.out, fun W' hW => HC'.out _ (fun k hk => (hW k (by have := HBB1.out.size; simp at hk; omega)).trans (oth3 (by have := HBB1.out.size; simp at hk; omega))), below3 HB3.out⟩
    · have HR : Aside0 (rAR (i :: r) l = (z42, false)) := ⟨by unfold rAR; rw [rA, dif_neg hin]⟩
      have hout : ((i : Int) < 0) ∨ (i : Int) ≥ (l.length : Int) := by omega
      by_cases hi0 : i < 0
      · have e1 : decide ((i : Int) < 0) = true := decide_eq_true hi0; clear hin hout
        go_enter Try.func32, Try.ntmps32
        go_upto_region 1 with fail
        rw [HW0.out]
        go_wp2_with fail
        refine bodyPost_ret (rat_results (b := w.heap.size) rfl rfl ((q9 (blk3 HN0.out) 0).trans rfl) ((q9 (blk3 HN0.out) 1).trans rfl) ((q9 (blk3 HN0.out) 2).trans rfl)) rfl ?_; rw [HR.out]; exact ⟨none, 0, rfl, Nat.le_refl _, fun _ _ => Kd.C_nil _ _, below3 HB0.out⟩
      · have e1 : decide ((i : Int) < 0) = false := decide_eq_false hi0; have e2 : decide ((i : Int) ≥ (l.length : Int)) = true := decide_eq_true (by omega); clear hin hout
        go_enter Try.func32, Try.ntmps32
        go_upto_region 1 with fail
        rw [HW0.out]
        go_wp2_with fail
        refine bodyPost_ret (rat_results (b := w.heap.size) rfl rfl ((q9 (blk3 HN0.out) 0).trans rfl) ((q9 (blk3 HN0.out) 1).trans rfl) ((q9 (blk3 HN0.out) 2).trans rfl)) rfl ?_; rw [HR.out]; exact ⟨none, 0, rfl, Nat.le_refl _, fun _ _ => Kd.C_nil _ _, below3 HB0.out⟩
end Go.Proofs.Ytdbjjaodkapikaa.TE
