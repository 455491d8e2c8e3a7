/- Whistle, at each kind (printed by genwh.py). -/
import Derived.Test.YtjhjhhibbmligaaMTEWh
namespace Go.Proofs.Ytjhjhhibbmligaa.TE
open Go.RowKit Go.Shelf Go.Proofs.YtjhjhhibbmligaaW.PrintWords Go.Proofs.YtjhjhhibbmligaaW.PrintLast Go.Proofs.YtjhjhhibbmligaaW.PrintMore Go.Proofs.Ytjhjhhibbmligaa.Evs
set_option linter.unusedVariables false
set_option linter.unusedSimpArgs false
section
attribute [local go_sem] Oper.semAt_some
theorem undF : (match Try.prog.underlying 37 with | some (.func ..) => true | _ => false) = true := by kernel_rfl
theorem equalIn_fn {P : Program} {t : TypeId} (h : (match P.underlying t with | some (.func ..) => true | _ => false) = true) (w : World) (d : Nat) (f : Fn) (lb : Array Value) : (Op.equalIn (d + 1) t (.func f #[] lb) .nilFunc).run P w = .ok false w := by
  cases hu : P.underlying t with
  | none => rw [hu] at h; cases h
  | some k =>
    cases k <;> (try (rw [hu] at h; cases h; done))
    simp [Op.equalIn, run_underlying hu]
set_option maxRecDepth 100000 in
theorem equal_fn (w : World) (f : Fn) (lb : Array Value) : (Op.equal 37 (.func f #[] lb) .nilFunc).run Try.prog w = .ok false w := equalIn_fn undF w 9999 f lb
theorem eql_fn (w : World) (f : Fn) (lb : Array Value) : (binOp .eql 37 (.func f #[] lb) .nilFunc).run Try.prog w = .ok (.bool false) w := by
  simp [binOp, equal_fn w f lb]
theorem whL_step {st : List Tm → Bool} {ls : List (List Tm)} {q : Nat} {x : List Tm} (hq : q < ls.length) (hx : ls[ls.length - 1 - q]? = some x) : whL st ls (ls.length - q) = if st x = true then ((ls.length - 1 - q : Nat) : Int) else whL st ls (ls.length - (q + 1)) := by
  rw [show ls.length - q = (ls.length - 1 - q) + 1 by omega, whL, hx, show ls.length - (q + 1) = ls.length - 1 - q by omega]; rfl
theorem Seen.init {w : World} {ls : List (List Tm)} {ys : List (Hy w ls)} {y : Hy w ls} (h : Seen (ys ++ [y])) : Seen ys := by
  have h1 := h.1; have h2 := h.2; rw [List.length_append, List.length_singleton] at h1; rw [List.map_append, List.length_append, List.length_singleton, List.range_succ, List.map_append] at h2; exact ⟨by omega, List.append_inj_left' h2 rfl⟩
theorem whL_seen {w : World} {ls : List (List Tm)} {st : List Tm → Bool} : ∀ (k : Nat) (ys : List (Hy w ls)), ys.length = k → Seen ys → (∀ y ∈ ys, st y.x = false) → whL st ls ls.length = whL st ls (ls.length - ys.length) := by
  intro k
  induction k with
  | zero => intro ys hk _ _; rw [hk]; rfl
  | succ k ih =>
    intro ys hk hS hall
    rcases List.eq_nil_or_concat ys with h | ⟨zs, y, h⟩
    · subst h; simp at hk
    · rw [List.concat_eq_append] at h; subst h; rw [List.length_append, List.length_singleton] at hk; have hz := hS.init; have h1 := hS.1; rw [List.length_append, List.length_singleton] at h1; have h3 := ih zs (by omega) hz (fun z hz => hall z (List.mem_append_left _ hz)); have h4 := hall y (List.mem_append_right _ (List.mem_singleton_self _)); have hx := y.hx; rw [hS.last] at hx; rw [h3, whL_step (by omega) hx, h4, List.length_append, List.length_singleton]; simp
theorem whL_stop {w : World} {ls : List (List Tm)} {st : List Tm → Bool} {ys : List (Hy w ls)} {y : Hy w ls} (hS : Seen (ys ++ [y])) (hall : ∀ z ∈ ys, st z.x = false) (h : st y.x = true) : whL st ls ls.length = (y.i : Int) := by
  have h1 := hS.1; rw [List.length_append, List.length_singleton] at h1; have hx := y.hx; rw [hS.last] at hx; rw [whL_seen _ ys rfl hS.init hall, whL_step (by omega) hx, if_pos h, hS.last]
theorem whL_done {w : World} {ls : List (List Tm)} {st : List Tm → Bool} {ys : List (Hy w ls)} (hS : Seen ys) (hl : ys.length = ls.length) (hall : ∀ z ∈ ys, st z.x = false) : whL st ls ls.length = -1 := by
  rw [whL_seen _ ys rfl hS hall, hl, Nat.sub_self]; rfl
theorem keepw_put {w : World} (W : World) (l : Nat) (o' : Obj) (hl : w.heap.size ≤ l) (h : l < W.heap.size) : Below w.heap.size W (W.putObj l o') :=
  (Below.refl _ W).grown (grownBy_putObj' W l o') (by omega) (fun k e => by cases e; exact hl)
set_option maxRecDepth 100000 in
set_option maxHeartbeats 4000000 in
theorem Whistle.calls1 (A B : Option Addr) (c d : Nat) (ls : List (List Tm)) (b : List Tm) (w : World) (hA : Kd.C (Kd.slice 42 k42) w A ls.length ls) (hc : ls.length ≤ c) (hlen : ls.length ≤ 1048576) (hbk : ∀ x ∈ ls, bk42s x ≤ 1048576) (hB : Kd.C k42 w B b.length b) (hd : b.length ≤ d) (h2 : bk42s b ≤ 1048576) :
    Calls Try.prog 39 #[.slice A ls.length c, .slice B b.length d, .int .i64 1] w fun e w' => e = .returned (.tuple #[.int .i64 (whL (fun x => embL x b) ls ls.length), .int .i64 0]) ∧ Below w.heap.size w w' := by
  obtain ⟨st, hst⟩ : ∃ st : List Tm → Bool, st = fun x => embL x b := ⟨_, rfl⟩
  rw [← hst]; have hstop : ∀ (W : World) (A2 : Option Addr) (c2 : Nat) (x : List Tm), Below w.heap.size w W → x ∈ ls → x.length ≤ c2 → Kd.C k42 W A2 x.length x →
      Calls Try.prog 25 (#[.slice A2 x.length c2, .slice B b.length d] ++ #[]) W fun e W' => e = .returned (.bool (st x)) ∧ Below W.heap.size W W' := by
    intro W A2 c2 x hbw hm hcx hCx; rw [hst]; exact In.calls A2 B c2 d x b W hCx (Kd.C_below hB hbw) hcx hd (flat_ok (hbk x hm)) (flat_ok h2)
  have HSTOP := Aside0.mk hstop; have HA := Aside0.mk hA; have HC := Aside0.mk hc; have HLEN := Aside0.mk hlen; clear hst hstop hA hc hbk hB hd h2 hlen; refine calls_of_wp_marks Try.func39 rfl ?_; simp only [Try.ntmps39, List.size_toArray, List.length_cons, List.length_nil, Nat.reduceAdd, Nat.reduceSub, Array.replicate_succ, Array.replicate_zero, List.push_toArray, List.append_toArray, List.nil_append, List.cons_append]
  go_wp2_with fail
  obtain ⟨W0, hW0⟩ : ∃ W0, W0 = (((w.alloc (.cells #[.slice B b.length d] 22)).alloc (.cells #[.int .i64 0] 3)).alloc (.cells #[.int .i64 0] 48)) := ⟨_, rfl⟩
  have z0 : W0.heap.size = w.heap.size + 3 := by rw [hW0]; simp
  have hb0 : Below w.heap.size w W0 := by rw [hW0]; exact (((Below.refl _ w).alloc (Nat.le_refl _) _).alloc (by simp) _).alloc (by simp; omega) _
  have k4 : W0.heap[w.heap.size]? = some (.cells #[.slice B b.length d] 22 (0, 0)) := by
    rw [hW0]; exact (Below.heap_alloc _ _ _ (by simp; omega)).trans ((Below.heap_alloc _ _ _ (by simp)).trans (World.alloc_heap_new w _))
  have k6 : W0.heap[w.heap.size + 1]? = some (.cells #[.int .i64 0] 3 (0, 0)) := by
    rw [hW0]; have := World.alloc_heap_new (w.alloc (.cells #[.slice B b.length d] 22)) (.cells #[.int .i64 0] 3); rw [World.size_alloc] at this; exact (Below.heap_alloc _ _ _ (by simp)).trans this
  have k7 : W0.heap[w.heap.size + 1 + 1]? = some (.cells #[.int .i64 0] 48 (0, 0)) := by
    rw [hW0]; have := World.alloc_heap_new ((w.alloc (.cells #[.slice B b.length d] 22)).alloc (.cells #[.int .i64 0] 3)) (.cells #[.int .i64 0] 48); rw [World.size_alloc, World.size_alloc] at this; exact this
  rw [← hW0]; clear hW0; refine (whistle.calls1 W0).mono ?_; rintro e w1 ⟨rfl, hb1⟩; have hb01 : Below w.heap.size w w1 := hb0.trans (hb1.mono hb0.size); obtain ⟨W2, hW2⟩ : ∃ W2, W2 = w1.alloc (.cells #[.func (.func 25) #[] #[]] 37) := ⟨_, rfl⟩
  have hb2 : Below w1.heap.size w1 W2 := by rw [hW2]; exact (Below.refl _ _).alloc (Nat.le_refl _) _
  have k8 : W2.heap[w1.heap.size]? = some (.cells #[.func (.func 25) #[] #[]] 37 (0, 0)) := by rw [hW2]; exact World.alloc_heap_new w1 _
  obtain ⟨W3, hW3⟩ : ∃ W3, W3 = W2.alloc (.cells #[.slice A ls.length c] 63) := ⟨_, rfl⟩
  have hb3 : Below W2.heap.size W2 W3 := by rw [hW3]; exact (Below.refl _ _).alloc (Nat.le_refl _) _
  have kb : W3.heap[W2.heap.size]? = some (.cells #[.slice A ls.length c] 63 (0, 0)) := by rw [hW3]; exact World.alloc_heap_new W2 _
  have hw1 : w.heap.size + 3 ≤ w1.heap.size := by have := hb1.size; omega
  have hz12 : w1.heap.size < W2.heap.size := blk_lt k8; have hz23 : W2.heap.size < W3.heap.size := blk_lt kb; have HBW3 := Aside0.mk (hb01.trans ((hb2.mono (by omega)).trans (hb3.mono (by omega))) : Below w.heap.size w W3); have K4 := Aside0.mk (q13 (q13 (q13 k4 (z0 ▸ hb1 : Below W0.heap.size W0 w1)) hb2) hb3); have K6 := Aside0.mk (q13 (q13 (q13 k6 (z0 ▸ hb1 : Below W0.heap.size W0 w1)) hb2) hb3); have K7 := Aside0.mk (q13 (q13 (q13 k7 (z0 ▸ hb1 : Below W0.heap.size W0 w1)) hb2) hb3); have K8 := Aside0.mk (q13 k8 hb3); have KB := Aside0.mk kb; have HW2 := Aside0.mk hW2; have HW3 := Aside0.mk hW3; clear k4 k6 k7 k8 kb hb0 hb1 hb01 hb2 hb3 hW2 hW3; have heq := eql_fn
  go_wp2_with fail
  rw [← HW2.out]; refine (Backward.calls A ls.length c W2).mono ?_; rintro e w' ⟨rfl, rfl⟩; rw [← HW3.out]
  go_wp2_with fail
  have hC3 : Kd.C (Kd.slice 42 k42) W3 A ls.length ls := Kd.C_below HA.out HBW3.out
  refine wpIn_wide.1 (wpIn_rangeFunc_ownH (n := 9) (gf := 150) (lb := #[.pointer (some ⟨W2.heap.size, 0, none⟩)]) rfl (by omega) rfl trivial enters_bw
    (back_stops 8 W3 W2.heap.size A c ls hC3 HC.out HLEN.out ((q4 KB.out 0).trans rfl)) (fun h k => Below.trans h k)
    (fun W k o o' hk ho hc hw => keepw_put W k o' hk (Array.getElem?_eq_some_iff.1 ho).1) (Below.refl _ _) (fun _ => rfl)
    (fun pre V => Below W3.heap.size W3 V ∧ ∀ y ∈ pre, st y.x = false)
    (fun cd pre V => cd = .ret ∧ ∃ p' y, pre = p' ++ [y] ∧ (∀ z ∈ p', st z.x = false) ∧ st y.x = true ∧ V.heap[w.heap.size + 1]? = some (.cells #[.int .i64 y.i] 3 (0, 0)) ∧ V.heap[w.heap.size + 1 + 1]? = some (.cells #[.int .i64 0] 48 (0, 0)) ∧ Below w.heap.size w V)
    (fun pre V V' row ⟨h1, h2⟩ hg hr => ⟨h1.grown hg h1.size (fun k e => (hr k e).1), h2⟩)
    (fun cd pre V V' row ⟨h0, p', y, h1, h2, h3, h4, h5, h6⟩ hg hr => ⟨h0, p', y, h1, h2, h3, (grownBy_keeps_cells hg (fun r e => (hr r e).2) h4 rfl).trans h4, (grownBy_keeps_cells hg (fun r e => (hr r e).2) h5 rfl).trans h5, h6.grown hg h6.size (fun k e => by have := (hr k e).1; omega)⟩)
    ⟨Below.refl _ _, fun y hy => by cases hy⟩
    (fun y a' V => a' = { tmps := #[.slice A ls.length c, .slice B b.length d, .int .i64 1, undef, .pointer (some ⟨w.heap.size, 0, none⟩), undef, .pointer (some ⟨w.heap.size + 1, 0, none⟩), .pointer (some ⟨w.heap.size + 1 + 1, 0, none⟩), .pointer (some ⟨w1.heap.size, 0, none⟩), .int .i64 y.i, .slice y.A y.x.length y.c, .int .i64 1, .func (.func 25) #[] #[], .func (.func 25) #[] #[], .bool false, .slice A ls.length c, .func (.func 150) #[] #[.pointer (some ⟨W2.heap.size, 0, none⟩)], .int .i64 y.i, .slice y.A y.x.length y.c, undef, undef, undef, undef, undef], defers := [] })
    (fun y a' => fun _ V V' row h hg hr => h) ?assign ?body ?done ?stop)
  case assign =>
    rintro lp pre y V K ⟨hi, hall⟩ hK; have HK := Aside0.mk hK; have HI := Aside0.mk hi; have HALL := Aside0.mk hall; clear hK hi hall hC3; simp [Hy.enc]
    gi_wp2
    exact HK.out _ _ (KeepsFrom.refl _ _) (Below.refl _ _) ⟨HI.out, HALL.out⟩ rfl
  case body =>
    rintro lp pre y a' V hl2 hr ⟨hi, hall⟩ rfl hlt; have m4 := q13 K4.out hi; have m6 := q13 K6.out hi; have m7 := q13 K7.out hi; have m8 := q13 K8.out hi; have q6 := q11 m6 0; have q7 := q11 m7 0; have c4 : V.cell? ⟨w.heap.size, 0, none⟩ = some (.slice B b.length d) := (q4 m4 0).trans rfl; have c8 : V.cell? ⟨w1.heap.size, 0, none⟩ = some (.func (.func 25) #[] #[]) := (q4 m8 0).trans rfl; have hcall := HSTOP.out V y.A y.c y.x (HBW3.out.trans (hi.mono HBW3.out.size)) (List.mem_of_getElem? y.hx) y.hc (Kd.C_below y.hr hi); obtain ⟨sv, hsv⟩ : ∃ sv, sv = st y.x := ⟨_, rfl⟩; rw [← hsv] at hcall; have HCALL := Aside0.mk hcall; have HSV := Aside0.mk hsv; have HI := Aside0.mk hi; have HALL := Aside0.mk hall; have M6 := Aside0.mk m6; have M7 := Aside0.mk m7; clear hcall hsv hi hall m4 m6 m7 m8 q6 q7 hC3 hr
    gi_wp2_with (fail)
    refine ⟨trivial, (CallsIn.inRound lp (callsIn_wide.2 HCALL.out)).mono ?_⟩; rintro e V2 ⟨rfl, hb⟩; have n6 := q13 M6.out hb; have n7 := q13 M7.out hb; have q6 := q11 n6 0; have q7 := q11 n7 0; have p6 : V2.cell? ⟨w.heap.size + 1, 0, none⟩ = some (.int .i64 0) := (q4 n6 0).trans rfl; have p7 : V2.cell? ⟨w.heap.size + 1 + 1, 0, none⟩ = some (.int .i64 0) := (q4 n7 0).trans rfl; have HB := Aside0.mk hb; have N6 := Aside0.mk n6; have N7 := Aside0.mk n7; clear hb n6 n7
    cases sv with
    | true =>
      gi_wp2
      have s6 : (V2.setCell ⟨w.heap.size + 1, 0, none⟩ (.int .i64 y.i)).heap[w.heap.size + 1]? = some (.cells #[.int .i64 y.i] 3 (0, 0)) := by simpa using q21 N6.out 0 (.int .i64 y.i)
      have s7 : (V2.setCell ⟨w.heap.size + 1, 0, none⟩ (.int .i64 y.i)).heap[w.heap.size + 1 + 1]? = some (.cells #[.int .i64 0] 48 (0, 0)) := (Below.heap_setCell V2 ⟨w.heap.size + 1, 0, none⟩ _ _ (by show w.heap.size + 1 + 1 ≠ w.heap.size + 1; omega)).trans N7.out; have hbw : Below w.heap.size w V2 := HBW3.out.trans ((HI.out.trans (HB.out.mono HI.out.size)).mono HBW3.out.size); refine ⟨(keepsFrom_below HB.out).trans (((KeepsOthers.setCell _ _ _).from _).trans ((KeepsOthers.setCell _ _ _).from _)), rfl, pre, y, rfl, HALL.out, HSV.out.symm, ?_, by simpa using q21 s7 0 (.int .i64 0), (hbw.setCell (p := ⟨w.heap.size + 1, 0, none⟩) (by show _ ≤ w.heap.size + 1; omega) _).setCell (p := ⟨w.heap.size + 1 + 1, 0, none⟩) (by show _ ≤ w.heap.size + 1 + 1; omega) _⟩; exact (Below.heap_setCell _ ⟨w.heap.size + 1 + 1, 0, none⟩ _ _ (by show w.heap.size + 1 ≠ w.heap.size + 1 + 1; omega)).trans s6
    | false =>
      gi_wp2
      refine ⟨keepsFrom_below HB.out, HB.out.mono HI.out.size, q12 HI.out HB.out, fun z hz => ?_⟩
      rcases List.mem_append.1 hz with h | h
      · exact HALL.out z h
      · rw [List.mem_singleton.1 h]; exact HSV.out.symm
  case done =>
    rintro D ys V hD ⟨hS, hl⟩ ⟨hi, hall⟩ hkD; have hres := whL_done hS hl hall; have m6 := q13 K6.out hi; have m7 := q13 K7.out hi; have q6 := q11 m6 0; have q7 := q11 m7 0; have p6 : V.cell? ⟨w.heap.size + 1, 0, none⟩ = some (.int .i64 0) := (q4 m6 0).trans rfl; have p7 : V.cell? ⟨w.heap.size + 1 + 1, 0, none⟩ = some (.int .i64 0) := (q4 m7 0).trans rfl; have hbw : Below w.heap.size w V := HBW3.out.trans (hi.mono HBW3.out.size); have M6 := Aside0.mk m6; have M7 := Aside0.mk m7; have HRES := Aside0.mk hres; have HKD := Aside0.mk hkD; have HBW := Aside0.mk hbw; clear hi hall hS hkD hres hbw m6 m7 hC3
    go_wp2
    have s6 : (V.setCell ⟨w.heap.size + 1, 0, none⟩ (.int .i64 (-1))).heap[w.heap.size + 1]? = some (.cells #[.int .i64 (-1)] 3 (0, 0)) := by simpa using q21 M6.out 0 (.int .i64 (-1))
    have s7 : (V.setCell ⟨w.heap.size + 1, 0, none⟩ (.int .i64 (-1))).heap[w.heap.size + 1 + 1]? = some (.cells #[.int .i64 0] 48 (0, 0)) := (Below.heap_setCell V ⟨w.heap.size + 1, 0, none⟩ _ _ (by show w.heap.size + 1 + 1 ≠ w.heap.size + 1; omega)).trans M7.out; have d6 : (V.setCell ⟨w.heap.size + 1, 0, none⟩ (.int .i64 (-1))).heap[D]? = some (.deferred (some [])) := (Below.heap_setCell V ⟨w.heap.size + 1, 0, none⟩ _ D (by show D ≠ w.heap.size + 1; omega)).trans HKD.out; have b6 : Below w.heap.size w (V.setCell ⟨w.heap.size + 1, 0, none⟩ (.int .i64 (-1))) := HBW.out.setCell (p := ⟨w.heap.size + 1, 0, none⟩) (by show _ ≤ w.heap.size + 1; omega) _; obtain ⟨V3, hV3⟩ : ∃ V3, V3 = V.setCell ⟨w.heap.size + 1, 0, none⟩ (.int .i64 (-1)) := ⟨_, rfl⟩; rw [← hV3] at s6 s7 d6 b6 ⊢
    have t7 : (V3.setCell ⟨w.heap.size + 1 + 1, 0, none⟩ (.int .i64 0)).heap[w.heap.size + 1 + 1]? = some (.cells #[.int .i64 0] 48 (0, 0)) := by simpa using q21 s7 0 (.int .i64 0)
    have t6 : (V3.setCell ⟨w.heap.size + 1 + 1, 0, none⟩ (.int .i64 0)).heap[w.heap.size + 1]? = some (.cells #[.int .i64 (-1)] 3 (0, 0)) := (Below.heap_setCell V3 ⟨w.heap.size + 1 + 1, 0, none⟩ _ _ (by show w.heap.size + 1 ≠ w.heap.size + 1 + 1; omega)).trans s6; have d7 : (V3.setCell ⟨w.heap.size + 1 + 1, 0, none⟩ (.int .i64 0)).heap[D]? = some (.deferred (some [])) := (Below.heap_setCell V3 ⟨w.heap.size + 1 + 1, 0, none⟩ _ D (by show D ≠ w.heap.size + 1 + 1; omega)).trans d6; have b7 : Below w.heap.size w (V3.setCell ⟨w.heap.size + 1 + 1, 0, none⟩ (.int .i64 0)) := b6.setCell (p := ⟨w.heap.size + 1 + 1, 0, none⟩) (by show _ ≤ w.heap.size + 1 + 1; omega) _; obtain ⟨V4, hV4⟩ : ∃ V4, V4 = V3.setCell ⟨w.heap.size + 1 + 1, 0, none⟩ (.int .i64 0) := ⟨_, rfl⟩; rw [← hV4] at t6 t7 d7 b7 ⊢; have c0 : (V4.putObj D (.deferred none)).cell? ⟨w.heap.size + 1, 0, none⟩ = some (.int .i64 (-1)) := (q4 ((World.putObj_heap_other (by omega)).trans t6) 0).trans rfl; have c1 : (V4.putObj D (.deferred none)).cell? ⟨w.heap.size + 1 + 1, 0, none⟩ = some (.int .i64 0) := (q4 ((World.putObj_heap_other (by omega)).trans t7) 0).trans rfl; refine leave1c (v := .tuple #[.int .i64 (-1), .int .i64 0]) d7 (by simp [results, Try.results39, go_sem, c0, c1]) ⟨by rw [HRES.out], putObj_below b7 D _ (by omega) b7.size⟩
  case stop =>
    rintro D cd pre V hD hS ⟨rfl, p', y, rfl, h1, h2, h3, h4, h5⟩ hkD; have hres := whL_stop hS h1 h2; have HRES := Aside0.mk hres; have HKD := Aside0.mk hkD; have H3 := Aside0.mk h3; have H4 := Aside0.mk h4; have H5 := Aside0.mk h5; clear hkD h1 h2 h3 h4 h5 hS hres hC3
    gi_wp2
    have c0 : (V.putObj D (.deferred none)).cell? ⟨w.heap.size + 1, 0, none⟩ = some (.int .i64 y.i) := (q4 ((World.putObj_heap_other (by omega)).trans H3.out) 0).trans rfl; have c1 : (V.putObj D (.deferred none)).cell? ⟨w.heap.size + 1 + 1, 0, none⟩ = some (.int .i64 0) := (q4 ((World.putObj_heap_other (by omega)).trans H4.out) 0).trans rfl; refine leave1c (v := .tuple #[.int .i64 y.i, .int .i64 0]) HKD.out (by simp [results, Try.results39, go_sem, c0, c1]) ⟨by rw [HRES.out], putObj_below H5.out D _ (by omega) H5.out.size⟩
set_option maxRecDepth 100000 in
set_option maxHeartbeats 4000000 in
theorem Whistle.calls2 (A B : Option Addr) (c d : Nat) (ls : List (List Tm)) (b : List Tm) (w : World) (hA : Kd.C (Kd.slice 42 k42) w A ls.length ls) (hc : ls.length ≤ c) (hlen : ls.length ≤ 1048576) (hbk : ∀ x ∈ ls, bk42s x ≤ 1048576) (hB : Kd.C k42 w B b.length b) (hd : b.length ≤ d) (h2 : bk42s b ≤ 1048576) :
    Calls Try.prog 39 #[.slice A ls.length c, .slice B b.length d, .int .i64 2] w fun e w' => e = .returned (.tuple #[.int .i64 (whL (fun x => stS x b) ls ls.length), .int .i64 0]) ∧ Below w.heap.size w w' := by
  obtain ⟨st, hst⟩ : ∃ st : List Tm → Bool, st = fun x => stS x b := ⟨_, rfl⟩
  rw [← hst]; have hstop : ∀ (W : World) (A2 : Option Addr) (c2 : Nat) (x : List Tm), Below w.heap.size w W → x ∈ ls → x.length ≤ c2 → Kd.C k42 W A2 x.length x →
      Calls Try.prog 148 (#[.slice A2 x.length c2, .slice B b.length d] ++ #[]) W fun e W' => e = .returned (.bool (st x)) ∧ Below W.heap.size W W' := by
    intro W A2 c2 x hbw hm hcx hCx; rw [hst]; exact whistle_1.calls A2 B c2 d x b W hCx (Kd.C_below hB hbw) hcx hd (hbk x hm) h2
  have HSTOP := Aside0.mk hstop; have HA := Aside0.mk hA; have HC := Aside0.mk hc; have HLEN := Aside0.mk hlen; clear hst hstop hA hc hbk hB hd h2 hlen; refine calls_of_wp_marks Try.func39 rfl ?_; simp only [Try.ntmps39, List.size_toArray, List.length_cons, List.length_nil, Nat.reduceAdd, Nat.reduceSub, Array.replicate_succ, Array.replicate_zero, List.push_toArray, List.append_toArray, List.nil_append, List.cons_append]
  go_wp2_with fail
  obtain ⟨W0, hW0⟩ : ∃ W0, W0 = (((w.alloc (.cells #[.slice B b.length d] 22)).alloc (.cells #[.int .i64 0] 3)).alloc (.cells #[.int .i64 0] 48)) := ⟨_, rfl⟩
  have z0 : W0.heap.size = w.heap.size + 3 := by rw [hW0]; simp
  have hb0 : Below w.heap.size w W0 := by rw [hW0]; exact (((Below.refl _ w).alloc (Nat.le_refl _) _).alloc (by simp) _).alloc (by simp; omega) _
  have k4 : W0.heap[w.heap.size]? = some (.cells #[.slice B b.length d] 22 (0, 0)) := by
    rw [hW0]; exact (Below.heap_alloc _ _ _ (by simp; omega)).trans ((Below.heap_alloc _ _ _ (by simp)).trans (World.alloc_heap_new w _))
  have k6 : W0.heap[w.heap.size + 1]? = some (.cells #[.int .i64 0] 3 (0, 0)) := by
    rw [hW0]; have := World.alloc_heap_new (w.alloc (.cells #[.slice B b.length d] 22)) (.cells #[.int .i64 0] 3); rw [World.size_alloc] at this; exact (Below.heap_alloc _ _ _ (by simp)).trans this
  have k7 : W0.heap[w.heap.size + 1 + 1]? = some (.cells #[.int .i64 0] 48 (0, 0)) := by
    rw [hW0]; have := World.alloc_heap_new ((w.alloc (.cells #[.slice B b.length d] 22)).alloc (.cells #[.int .i64 0] 3)) (.cells #[.int .i64 0] 48); rw [World.size_alloc, World.size_alloc] at this; exact this
  rw [← hW0]; clear hW0; refine (whistle.calls2 W0).mono ?_; rintro e w1 ⟨rfl, hb1⟩; have hb01 : Below w.heap.size w w1 := hb0.trans (hb1.mono hb0.size); obtain ⟨W2, hW2⟩ : ∃ W2, W2 = w1.alloc (.cells #[.func (.func 148) #[] #[]] 37) := ⟨_, rfl⟩
  have hb2 : Below w1.heap.size w1 W2 := by rw [hW2]; exact (Below.refl _ _).alloc (Nat.le_refl _) _
  have k8 : W2.heap[w1.heap.size]? = some (.cells #[.func (.func 148) #[] #[]] 37 (0, 0)) := by rw [hW2]; exact World.alloc_heap_new w1 _
  obtain ⟨W3, hW3⟩ : ∃ W3, W3 = W2.alloc (.cells #[.slice A ls.length c] 63) := ⟨_, rfl⟩
  have hb3 : Below W2.heap.size W2 W3 := by rw [hW3]; exact (Below.refl _ _).alloc (Nat.le_refl _) _
  have kb : W3.heap[W2.heap.size]? = some (.cells #[.slice A ls.length c] 63 (0, 0)) := by rw [hW3]; exact World.alloc_heap_new W2 _
  have hw1 : w.heap.size + 3 ≤ w1.heap.size := by have := hb1.size; omega
  have hz12 : w1.heap.size < W2.heap.size := blk_lt k8; have hz23 : W2.heap.size < W3.heap.size := blk_lt kb; have HBW3 := Aside0.mk (hb01.trans ((hb2.mono (by omega)).trans (hb3.mono (by omega))) : Below w.heap.size w W3); have K4 := Aside0.mk (q13 (q13 (q13 k4 (z0 ▸ hb1 : Below W0.heap.size W0 w1)) hb2) hb3); have K6 := Aside0.mk (q13 (q13 (q13 k6 (z0 ▸ hb1 : Below W0.heap.size W0 w1)) hb2) hb3); have K7 := Aside0.mk (q13 (q13 (q13 k7 (z0 ▸ hb1 : Below W0.heap.size W0 w1)) hb2) hb3); have K8 := Aside0.mk (q13 k8 hb3); have KB := Aside0.mk kb; have HW2 := Aside0.mk hW2; have HW3 := Aside0.mk hW3; clear k4 k6 k7 k8 kb hb0 hb1 hb01 hb2 hb3 hW2 hW3; have heq := eql_fn
  go_wp2_with fail
  rw [← HW2.out]; refine (Backward.calls A ls.length c W2).mono ?_; rintro e w' ⟨rfl, rfl⟩; rw [← HW3.out]
  go_wp2_with fail
  have hC3 : Kd.C (Kd.slice 42 k42) W3 A ls.length ls := Kd.C_below HA.out HBW3.out
  refine wpIn_wide.1 (wpIn_rangeFunc_ownH (n := 9) (gf := 150) (lb := #[.pointer (some ⟨W2.heap.size, 0, none⟩)]) rfl (by omega) rfl trivial enters_bw
    (back_stops 8 W3 W2.heap.size A c ls hC3 HC.out HLEN.out ((q4 KB.out 0).trans rfl)) (fun h k => Below.trans h k)
    (fun W k o o' hk ho hc hw => keepw_put W k o' hk (Array.getElem?_eq_some_iff.1 ho).1) (Below.refl _ _) (fun _ => rfl)
    (fun pre V => Below W3.heap.size W3 V ∧ ∀ y ∈ pre, st y.x = false)
    (fun cd pre V => cd = .ret ∧ ∃ p' y, pre = p' ++ [y] ∧ (∀ z ∈ p', st z.x = false) ∧ st y.x = true ∧ V.heap[w.heap.size + 1]? = some (.cells #[.int .i64 y.i] 3 (0, 0)) ∧ V.heap[w.heap.size + 1 + 1]? = some (.cells #[.int .i64 0] 48 (0, 0)) ∧ Below w.heap.size w V)
    (fun pre V V' row ⟨h1, h2⟩ hg hr => ⟨h1.grown hg h1.size (fun k e => (hr k e).1), h2⟩)
    (fun cd pre V V' row ⟨h0, p', y, h1, h2, h3, h4, h5, h6⟩ hg hr => ⟨h0, p', y, h1, h2, h3, (grownBy_keeps_cells hg (fun r e => (hr r e).2) h4 rfl).trans h4, (grownBy_keeps_cells hg (fun r e => (hr r e).2) h5 rfl).trans h5, h6.grown hg h6.size (fun k e => by have := (hr k e).1; omega)⟩)
    ⟨Below.refl _ _, fun y hy => by cases hy⟩
    (fun y a' V => a' = { tmps := #[.slice A ls.length c, .slice B b.length d, .int .i64 2, undef, .pointer (some ⟨w.heap.size, 0, none⟩), undef, .pointer (some ⟨w.heap.size + 1, 0, none⟩), .pointer (some ⟨w.heap.size + 1 + 1, 0, none⟩), .pointer (some ⟨w1.heap.size, 0, none⟩), .int .i64 y.i, .slice y.A y.x.length y.c, .int .i64 2, .func (.func 148) #[] #[], .func (.func 148) #[] #[], .bool false, .slice A ls.length c, .func (.func 150) #[] #[.pointer (some ⟨W2.heap.size, 0, none⟩)], .int .i64 y.i, .slice y.A y.x.length y.c, undef, undef, undef, undef, undef], defers := [] })
    (fun y a' => fun _ V V' row h hg hr => h) ?assign ?body ?done ?stop)
  case assign =>
    rintro lp pre y V K ⟨hi, hall⟩ hK; have HK := Aside0.mk hK; have HI := Aside0.mk hi; have HALL := Aside0.mk hall; clear hK hi hall hC3; simp [Hy.enc]
    gi_wp2
    exact HK.out _ _ (KeepsFrom.refl _ _) (Below.refl _ _) ⟨HI.out, HALL.out⟩ rfl
  case body =>
    rintro lp pre y a' V hl2 hr ⟨hi, hall⟩ rfl hlt; have m4 := q13 K4.out hi; have m6 := q13 K6.out hi; have m7 := q13 K7.out hi; have m8 := q13 K8.out hi; have q6 := q11 m6 0; have q7 := q11 m7 0; have c4 : V.cell? ⟨w.heap.size, 0, none⟩ = some (.slice B b.length d) := (q4 m4 0).trans rfl; have c8 : V.cell? ⟨w1.heap.size, 0, none⟩ = some (.func (.func 148) #[] #[]) := (q4 m8 0).trans rfl; have hcall := HSTOP.out V y.A y.c y.x (HBW3.out.trans (hi.mono HBW3.out.size)) (List.mem_of_getElem? y.hx) y.hc (Kd.C_below y.hr hi); obtain ⟨sv, hsv⟩ : ∃ sv, sv = st y.x := ⟨_, rfl⟩; rw [← hsv] at hcall; have HCALL := Aside0.mk hcall; have HSV := Aside0.mk hsv; have HI := Aside0.mk hi; have HALL := Aside0.mk hall; have M6 := Aside0.mk m6; have M7 := Aside0.mk m7; clear hcall hsv hi hall m4 m6 m7 m8 q6 q7 hC3 hr
    gi_wp2_with (fail)
    refine ⟨trivial, (CallsIn.inRound lp (callsIn_wide.2 HCALL.out)).mono ?_⟩; rintro e V2 ⟨rfl, hb⟩; have n6 := q13 M6.out hb; have n7 := q13 M7.out hb; have q6 := q11 n6 0; have q7 := q11 n7 0; have p6 : V2.cell? ⟨w.heap.size + 1, 0, none⟩ = some (.int .i64 0) := (q4 n6 0).trans rfl; have p7 : V2.cell? ⟨w.heap.size + 1 + 1, 0, none⟩ = some (.int .i64 0) := (q4 n7 0).trans rfl; have HB := Aside0.mk hb; have N6 := Aside0.mk n6; have N7 := Aside0.mk n7; clear hb n6 n7
    cases sv with
    | true =>
      gi_wp2
      have s6 : (V2.setCell ⟨w.heap.size + 1, 0, none⟩ (.int .i64 y.i)).heap[w.heap.size + 1]? = some (.cells #[.int .i64 y.i] 3 (0, 0)) := by simpa using q21 N6.out 0 (.int .i64 y.i)
      have s7 : (V2.setCell ⟨w.heap.size + 1, 0, none⟩ (.int .i64 y.i)).heap[w.heap.size + 1 + 1]? = some (.cells #[.int .i64 0] 48 (0, 0)) := (Below.heap_setCell V2 ⟨w.heap.size + 1, 0, none⟩ _ _ (by show w.heap.size + 1 + 1 ≠ w.heap.size + 1; omega)).trans N7.out; have hbw : Below w.heap.size w V2 := HBW3.out.trans ((HI.out.trans (HB.out.mono HI.out.size)).mono HBW3.out.size); refine ⟨(keepsFrom_below HB.out).trans (((KeepsOthers.setCell _ _ _).from _).trans ((KeepsOthers.setCell _ _ _).from _)), rfl, pre, y, rfl, HALL.out, HSV.out.symm, ?_, by simpa using q21 s7 0 (.int .i64 0), (hbw.setCell (p := ⟨w.heap.size + 1, 0, none⟩) (by show _ ≤ w.heap.size + 1; omega) _).setCell (p := ⟨w.heap.size + 1 + 1, 0, none⟩) (by show _ ≤ w.heap.size + 1 + 1; omega) _⟩; exact (Below.heap_setCell _ ⟨w.heap.size + 1 + 1, 0, none⟩ _ _ (by show w.heap.size + 1 ≠ w.heap.size + 1 + 1; omega)).trans s6
    | false =>
      gi_wp2
      refine ⟨keepsFrom_below HB.out, HB.out.mono HI.out.size, q12 HI.out HB.out, fun z hz => ?_⟩
      rcases List.mem_append.1 hz with h | h
      · exact HALL.out z h
      · rw [List.mem_singleton.1 h]; exact HSV.out.symm
  case done =>
    rintro D ys V hD ⟨hS, hl⟩ ⟨hi, hall⟩ hkD; have hres := whL_done hS hl hall; have m6 := q13 K6.out hi; have m7 := q13 K7.out hi; have q6 := q11 m6 0; have q7 := q11 m7 0; have p6 : V.cell? ⟨w.heap.size + 1, 0, none⟩ = some (.int .i64 0) := (q4 m6 0).trans rfl; have p7 : V.cell? ⟨w.heap.size + 1 + 1, 0, none⟩ = some (.int .i64 0) := (q4 m7 0).trans rfl; have hbw : Below w.heap.size w V := HBW3.out.trans (hi.mono HBW3.out.size); have M6 := Aside0.mk m6; have M7 := Aside0.mk m7; have HRES := Aside0.mk hres; have HKD := Aside0.mk hkD; have HBW := Aside0.mk hbw; clear hi hall hS hkD hres hbw m6 m7 hC3
    go_wp2
    have s6 : (V.setCell ⟨w.heap.size + 1, 0, none⟩ (.int .i64 (-1))).heap[w.heap.size + 1]? = some (.cells #[.int .i64 (-1)] 3 (0, 0)) := by simpa using q21 M6.out 0 (.int .i64 (-1))
    have s7 : (V.setCell ⟨w.heap.size + 1, 0, none⟩ (.int .i64 (-1))).heap[w.heap.size + 1 + 1]? = some (.cells #[.int .i64 0] 48 (0, 0)) := (Below.heap_setCell V ⟨w.heap.size + 1, 0, none⟩ _ _ (by show w.heap.size + 1 + 1 ≠ w.heap.size + 1; omega)).trans M7.out; have d6 : (V.setCell ⟨w.heap.size + 1, 0, none⟩ (.int .i64 (-1))).heap[D]? = some (.deferred (some [])) := (Below.heap_setCell V ⟨w.heap.size + 1, 0, none⟩ _ D (by show D ≠ w.heap.size + 1; omega)).trans HKD.out; have b6 : Below w.heap.size w (V.setCell ⟨w.heap.size + 1, 0, none⟩ (.int .i64 (-1))) := HBW.out.setCell (p := ⟨w.heap.size + 1, 0, none⟩) (by show _ ≤ w.heap.size + 1; omega) _; obtain ⟨V3, hV3⟩ : ∃ V3, V3 = V.setCell ⟨w.heap.size + 1, 0, none⟩ (.int .i64 (-1)) := ⟨_, rfl⟩; rw [← hV3] at s6 s7 d6 b6 ⊢
    have t7 : (V3.setCell ⟨w.heap.size + 1 + 1, 0, none⟩ (.int .i64 0)).heap[w.heap.size + 1 + 1]? = some (.cells #[.int .i64 0] 48 (0, 0)) := by simpa using q21 s7 0 (.int .i64 0)
    have t6 : (V3.setCell ⟨w.heap.size + 1 + 1, 0, none⟩ (.int .i64 0)).heap[w.heap.size + 1]? = some (.cells #[.int .i64 (-1)] 3 (0, 0)) := (Below.heap_setCell V3 ⟨w.heap.size + 1 + 1, 0, none⟩ _ _ (by show w.heap.size + 1 ≠ w.heap.size + 1 + 1; omega)).trans s6; have d7 : (V3.setCell ⟨w.heap.size + 1 + 1, 0, none⟩ (.int .i64 0)).heap[D]? = some (.deferred (some [])) := (Below.heap_setCell V3 ⟨w.heap.size + 1 + 1, 0, none⟩ _ D (by show D ≠ w.heap.size + 1 + 1; omega)).trans d6; have b7 : Below w.heap.size w (V3.setCell ⟨w.heap.size + 1 + 1, 0, none⟩ (.int .i64 0)) := b6.setCell (p := ⟨w.heap.size + 1 + 1, 0, none⟩) (by show _ ≤ w.heap.size + 1 + 1; omega) _; obtain ⟨V4, hV4⟩ : ∃ V4, V4 = V3.setCell ⟨w.heap.size + 1 + 1, 0, none⟩ (.int .i64 0) := ⟨_, rfl⟩; rw [← hV4] at t6 t7 d7 b7 ⊢; have c0 : (V4.putObj D (.deferred none)).cell? ⟨w.heap.size + 1, 0, none⟩ = some (.int .i64 (-1)) := (q4 ((World.putObj_heap_other (by omega)).trans t6) 0).trans rfl; have c1 : (V4.putObj D (.deferred none)).cell? ⟨w.heap.size + 1 + 1, 0, none⟩ = some (.int .i64 0) := (q4 ((World.putObj_heap_other (by omega)).trans t7) 0).trans rfl; refine leave1c (v := .tuple #[.int .i64 (-1), .int .i64 0]) d7 (by simp [results, Try.results39, go_sem, c0, c1]) ⟨by rw [HRES.out], putObj_below b7 D _ (by omega) b7.size⟩
  case stop =>
    rintro D cd pre V hD hS ⟨rfl, p', y, rfl, h1, h2, h3, h4, h5⟩ hkD; have hres := whL_stop hS h1 h2; have HRES := Aside0.mk hres; have HKD := Aside0.mk hkD; have H3 := Aside0.mk h3; have H4 := Aside0.mk h4; have H5 := Aside0.mk h5; clear hkD h1 h2 h3 h4 h5 hS hres hC3
    gi_wp2
    have c0 : (V.putObj D (.deferred none)).cell? ⟨w.heap.size + 1, 0, none⟩ = some (.int .i64 y.i) := (q4 ((World.putObj_heap_other (by omega)).trans H3.out) 0).trans rfl; have c1 : (V.putObj D (.deferred none)).cell? ⟨w.heap.size + 1 + 1, 0, none⟩ = some (.int .i64 0) := (q4 ((World.putObj_heap_other (by omega)).trans H4.out) 0).trans rfl; refine leave1c (v := .tuple #[.int .i64 y.i, .int .i64 0]) HKD.out (by simp [results, Try.results39, go_sem, c0, c1]) ⟨by rw [HRES.out], putObj_below H5.out D _ (by omega) H5.out.size⟩
set_option maxRecDepth 100000 in
set_option maxHeartbeats 4000000 in
theorem Whistle.calls3 (A B : Option Addr) (c d : Nat) (ls : List (List Tm)) (b : List Tm) (w : World) (hA : Kd.C (Kd.slice 42 k42) w A ls.length ls) (hc : ls.length ≤ c) (hlen : ls.length ≤ 1048576) (hbk : ∀ x ∈ ls, bk42s x ≤ 1048576) (hB : Kd.C k42 w B b.length b) (hd : b.length ≤ d) (h2 : bk42s b ≤ 1048576) :
    Calls Try.prog 39 #[.slice A ls.length c, .slice B b.length d, .int .i64 3] w fun e w' => e = .returned (.tuple #[.int .i64 (whL (fun x => (stS x b && embL x b)) ls ls.length), .int .i64 0]) ∧ Below w.heap.size w w' := by
  obtain ⟨st, hst⟩ : ∃ st : List Tm → Bool, st = fun x => (stS x b && embL x b) := ⟨_, rfl⟩
  rw [← hst]; have hstop : ∀ (W : World) (A2 : Option Addr) (c2 : Nat) (x : List Tm), Below w.heap.size w W → W.cell? ⟨w.heap.size + 3, 0, none⟩ = some (.func (.func 148) #[] #[]) → x ∈ ls → x.length ≤ c2 → Kd.C k42 W A2 x.length x →
      Calls Try.prog 149 (#[.slice A2 x.length c2, .slice B b.length d] ++ #[.pointer (some ⟨w.heap.size + 3, 0, none⟩)]) W fun e W' => e = .returned (.bool (st x)) ∧ Below W.heap.size W W' := by
    intro W A2 c2 x hbw hpw hm hcx hCx; rw [hst]; exact whistle_2.calls A2 B c2 d x b _ W hCx (Kd.C_below hB hbw) hcx hd (hbk x hm) h2 hpw
  have HSTOP := Aside0.mk hstop; have HA := Aside0.mk hA; have HC := Aside0.mk hc; have HLEN := Aside0.mk hlen; clear hst hstop hA hc hbk hB hd h2 hlen; refine calls_of_wp_marks Try.func39 rfl ?_; simp only [Try.ntmps39, List.size_toArray, List.length_cons, List.length_nil, Nat.reduceAdd, Nat.reduceSub, Array.replicate_succ, Array.replicate_zero, List.push_toArray, List.append_toArray, List.nil_append, List.cons_append]
  go_wp2_with fail
  obtain ⟨W0, hW0⟩ : ∃ W0, W0 = (((w.alloc (.cells #[.slice B b.length d] 22)).alloc (.cells #[.int .i64 0] 3)).alloc (.cells #[.int .i64 0] 48)) := ⟨_, rfl⟩
  have z0 : W0.heap.size = w.heap.size + 3 := by rw [hW0]; simp
  have hb0 : Below w.heap.size w W0 := by rw [hW0]; exact (((Below.refl _ w).alloc (Nat.le_refl _) _).alloc (by simp) _).alloc (by simp; omega) _
  have k4 : W0.heap[w.heap.size]? = some (.cells #[.slice B b.length d] 22 (0, 0)) := by
    rw [hW0]; exact (Below.heap_alloc _ _ _ (by simp; omega)).trans ((Below.heap_alloc _ _ _ (by simp)).trans (World.alloc_heap_new w _))
  have k6 : W0.heap[w.heap.size + 1]? = some (.cells #[.int .i64 0] 3 (0, 0)) := by
    rw [hW0]; have := World.alloc_heap_new (w.alloc (.cells #[.slice B b.length d] 22)) (.cells #[.int .i64 0] 3); rw [World.size_alloc] at this; exact (Below.heap_alloc _ _ _ (by simp)).trans this
  have k7 : W0.heap[w.heap.size + 1 + 1]? = some (.cells #[.int .i64 0] 48 (0, 0)) := by
    rw [hW0]; have := World.alloc_heap_new ((w.alloc (.cells #[.slice B b.length d] 22)).alloc (.cells #[.int .i64 0] 3)) (.cells #[.int .i64 0] 48); rw [World.size_alloc, World.size_alloc] at this; exact this
  rw [← hW0]; clear hW0; refine (whistle.calls3 W0).mono ?_; rintro e w1 ⟨rfl, hg1, hb1⟩; have hb01 : Below w.heap.size w w1 := hb0.trans (hb1.mono hb0.size); obtain ⟨W2, hW2⟩ : ∃ W2, W2 = w1.alloc (.cells #[.func (.func 149) #[] #[.pointer (some ⟨w.heap.size + 3, 0, none⟩)]] 37) := ⟨_, rfl⟩
  have hb2 : Below w1.heap.size w1 W2 := by rw [hW2]; exact (Below.refl _ _).alloc (Nat.le_refl _) _
  have k8 : W2.heap[w1.heap.size]? = some (.cells #[.func (.func 149) #[] #[.pointer (some ⟨w.heap.size + 3, 0, none⟩)]] 37 (0, 0)) := by rw [hW2]; exact World.alloc_heap_new w1 _
  obtain ⟨W3, hW3⟩ : ∃ W3, W3 = W2.alloc (.cells #[.slice A ls.length c] 63) := ⟨_, rfl⟩
  have hb3 : Below W2.heap.size W2 W3 := by rw [hW3]; exact (Below.refl _ _).alloc (Nat.le_refl _) _
  have kb : W3.heap[W2.heap.size]? = some (.cells #[.slice A ls.length c] 63 (0, 0)) := by rw [hW3]; exact World.alloc_heap_new W2 _
  have hw1 : w.heap.size + 3 ≤ w1.heap.size := by have := hb1.size; omega
  have hz12 : w1.heap.size < W2.heap.size := blk_lt k8; have hz23 : W2.heap.size < W3.heap.size := blk_lt kb; have HBW3 := Aside0.mk (hb01.trans ((hb2.mono (by omega)).trans (hb3.mono (by omega))) : Below w.heap.size w W3); have K4 := Aside0.mk (q13 (q13 (q13 k4 (z0 ▸ hb1 : Below W0.heap.size W0 w1)) hb2) hb3); have K6 := Aside0.mk (q13 (q13 (q13 k6 (z0 ▸ hb1 : Below W0.heap.size W0 w1)) hb2) hb3); have K7 := Aside0.mk (q13 (q13 (q13 k7 (z0 ▸ hb1 : Below W0.heap.size W0 w1)) hb2) hb3); have K8 := Aside0.mk (q13 k8 hb3); have KG := Aside0.mk (q13 (q13 (z0 ▸ hg1) hb2) hb3); have KB := Aside0.mk kb; have HW2 := Aside0.mk hW2; have HW3 := Aside0.mk hW3; clear k4 k6 k7 k8 kb hb0 hb1 hb01 hb2 hb3 hW2 hW3 hg1; have heq := eql_fn
  go_wp2_with fail
  rw [← HW2.out]; refine (Backward.calls A ls.length c W2).mono ?_; rintro e w' ⟨rfl, rfl⟩; rw [← HW3.out]
  go_wp2_with fail
  have hC3 : Kd.C (Kd.slice 42 k42) W3 A ls.length ls := Kd.C_below HA.out HBW3.out
  refine wpIn_wide.1 (wpIn_rangeFunc_ownH (n := 9) (gf := 150) (lb := #[.pointer (some ⟨W2.heap.size, 0, none⟩)]) rfl (by omega) rfl trivial enters_bw
    (back_stops 8 W3 W2.heap.size A c ls hC3 HC.out HLEN.out ((q4 KB.out 0).trans rfl)) (fun h k => Below.trans h k)
    (fun W k o o' hk ho hc hw => keepw_put W k o' hk (Array.getElem?_eq_some_iff.1 ho).1) (Below.refl _ _) (fun _ => rfl)
    (fun pre V => Below W3.heap.size W3 V ∧ ∀ y ∈ pre, st y.x = false)
    (fun cd pre V => cd = .ret ∧ ∃ p' y, pre = p' ++ [y] ∧ (∀ z ∈ p', st z.x = false) ∧ st y.x = true ∧ V.heap[w.heap.size + 1]? = some (.cells #[.int .i64 y.i] 3 (0, 0)) ∧ V.heap[w.heap.size + 1 + 1]? = some (.cells #[.int .i64 0] 48 (0, 0)) ∧ Below w.heap.size w V)
    (fun pre V V' row ⟨h1, h2⟩ hg hr => ⟨h1.grown hg h1.size (fun k e => (hr k e).1), h2⟩)
    (fun cd pre V V' row ⟨h0, p', y, h1, h2, h3, h4, h5, h6⟩ hg hr => ⟨h0, p', y, h1, h2, h3, (grownBy_keeps_cells hg (fun r e => (hr r e).2) h4 rfl).trans h4, (grownBy_keeps_cells hg (fun r e => (hr r e).2) h5 rfl).trans h5, h6.grown hg h6.size (fun k e => by have := (hr k e).1; omega)⟩)
    ⟨Below.refl _ _, fun y hy => by cases hy⟩
    (fun y a' V => a' = { tmps := #[.slice A ls.length c, .slice B b.length d, .int .i64 3, undef, .pointer (some ⟨w.heap.size, 0, none⟩), undef, .pointer (some ⟨w.heap.size + 1, 0, none⟩), .pointer (some ⟨w.heap.size + 1 + 1, 0, none⟩), .pointer (some ⟨w1.heap.size, 0, none⟩), .int .i64 y.i, .slice y.A y.x.length y.c, .int .i64 3, .func (.func 149) #[] #[.pointer (some ⟨w.heap.size + 3, 0, none⟩)], .func (.func 149) #[] #[.pointer (some ⟨w.heap.size + 3, 0, none⟩)], .bool false, .slice A ls.length c, .func (.func 150) #[] #[.pointer (some ⟨W2.heap.size, 0, none⟩)], .int .i64 y.i, .slice y.A y.x.length y.c, undef, undef, undef, undef, undef], defers := [] })
    (fun y a' => fun _ V V' row h hg hr => h) ?assign ?body ?done ?stop)
  case assign =>
    rintro lp pre y V K ⟨hi, hall⟩ hK; have HK := Aside0.mk hK; have HI := Aside0.mk hi; have HALL := Aside0.mk hall; clear hK hi hall hC3; simp [Hy.enc]
    gi_wp2
    exact HK.out _ _ (KeepsFrom.refl _ _) (Below.refl _ _) ⟨HI.out, HALL.out⟩ rfl
  case body =>
    rintro lp pre y a' V hl2 hr ⟨hi, hall⟩ rfl hlt; have m4 := q13 K4.out hi; have m6 := q13 K6.out hi; have m7 := q13 K7.out hi; have m8 := q13 K8.out hi; have q6 := q11 m6 0; have q7 := q11 m7 0; have c4 : V.cell? ⟨w.heap.size, 0, none⟩ = some (.slice B b.length d) := (q4 m4 0).trans rfl; have c8 : V.cell? ⟨w1.heap.size, 0, none⟩ = some (.func (.func 149) #[] #[.pointer (some ⟨w.heap.size + 3, 0, none⟩)]) := (q4 m8 0).trans rfl; have hcall := HSTOP.out V y.A y.c y.x (HBW3.out.trans (hi.mono HBW3.out.size)) ((q4 (q13 KG.out hi) 0).trans rfl) (List.mem_of_getElem? y.hx) y.hc (Kd.C_below y.hr hi); obtain ⟨sv, hsv⟩ : ∃ sv, sv = st y.x := ⟨_, rfl⟩; rw [← hsv] at hcall; have HCALL := Aside0.mk hcall; have HSV := Aside0.mk hsv; have HI := Aside0.mk hi; have HALL := Aside0.mk hall; have M6 := Aside0.mk m6; have M7 := Aside0.mk m7; clear hcall hsv hi hall m4 m6 m7 m8 q6 q7 hC3 hr
    gi_wp2_with (fail)
    refine ⟨trivial, (CallsIn.inRound lp (callsIn_wide.2 HCALL.out)).mono ?_⟩; rintro e V2 ⟨rfl, hb⟩; have n6 := q13 M6.out hb; have n7 := q13 M7.out hb; have q6 := q11 n6 0; have q7 := q11 n7 0; have p6 : V2.cell? ⟨w.heap.size + 1, 0, none⟩ = some (.int .i64 0) := (q4 n6 0).trans rfl; have p7 : V2.cell? ⟨w.heap.size + 1 + 1, 0, none⟩ = some (.int .i64 0) := (q4 n7 0).trans rfl; have HB := Aside0.mk hb; have N6 := Aside0.mk n6; have N7 := Aside0.mk n7; clear hb n6 n7
    cases sv with
    | true =>
      gi_wp2
      have s6 : (V2.setCell ⟨w.heap.size + 1, 0, none⟩ (.int .i64 y.i)).heap[w.heap.size + 1]? = some (.cells #[.int .i64 y.i] 3 (0, 0)) := by simpa using q21 N6.out 0 (.int .i64 y.i)
      have s7 : (V2.setCell ⟨w.heap.size + 1, 0, none⟩ (.int .i64 y.i)).heap[w.heap.size + 1 + 1]? = some (.cells #[.int .i64 0] 48 (0, 0)) := (Below.heap_setCell V2 ⟨w.heap.size + 1, 0, none⟩ _ _ (by show w.heap.size + 1 + 1 ≠ w.heap.size + 1; omega)).trans N7.out; have hbw : Below w.heap.size w V2 := HBW3.out.trans ((HI.out.trans (HB.out.mono HI.out.size)).mono HBW3.out.size); refine ⟨(keepsFrom_below HB.out).trans (((KeepsOthers.setCell _ _ _).from _).trans ((KeepsOthers.setCell _ _ _).from _)), rfl, pre, y, rfl, HALL.out, HSV.out.symm, ?_, by simpa using q21 s7 0 (.int .i64 0), (hbw.setCell (p := ⟨w.heap.size + 1, 0, none⟩) (by show _ ≤ w.heap.size + 1; omega) _).setCell (p := ⟨w.heap.size + 1 + 1, 0, none⟩) (by show _ ≤ w.heap.size + 1 + 1; omega) _⟩; exact (Below.heap_setCell _ ⟨w.heap.size + 1 + 1, 0, none⟩ _ _ (by show w.heap.size + 1 ≠ w.heap.size + 1 + 1; omega)).trans s6
    | false =>
      gi_wp2
      refine ⟨keepsFrom_below HB.out, HB.out.mono HI.out.size, q12 HI.out HB.out, fun z hz => ?_⟩
      rcases List.mem_append.1 hz with h | h
      · exact HALL.out z h
      · rw [List.mem_singleton.1 h]; exact HSV.out.symm
  case done =>
    rintro D ys V hD ⟨hS, hl⟩ ⟨hi, hall⟩ hkD; have hres := whL_done hS hl hall; have m6 := q13 K6.out hi; have m7 := q13 K7.out hi; have q6 := q11 m6 0; have q7 := q11 m7 0; have p6 : V.cell? ⟨w.heap.size + 1, 0, none⟩ = some (.int .i64 0) := (q4 m6 0).trans rfl; have p7 : V.cell? ⟨w.heap.size + 1 + 1, 0, none⟩ = some (.int .i64 0) := (q4 m7 0).trans rfl; have hbw : Below w.heap.size w V := HBW3.out.trans (hi.mono HBW3.out.size); have M6 := Aside0.mk m6; have M7 := Aside0.mk m7; have HRES := Aside0.mk hres; have HKD := Aside0.mk hkD; have HBW := Aside0.mk hbw; clear hi hall hS hkD hres hbw m6 m7 hC3
    go_wp2
    have s6 : (V.setCell ⟨w.heap.size + 1, 0, none⟩ (.int .i64 (-1))).heap[w.heap.size + 1]? = some (.cells #[.int .i64 (-1)] 3 (0, 0)) := by simpa using q21 M6.out 0 (.int .i64 (-1))
    have s7 : (V.setCell ⟨w.heap.size + 1, 0, none⟩ (.int .i64 (-1))).heap[w.heap.size + 1 + 1]? = some (.cells #[.int .i64 0] 48 (0, 0)) := (Below.heap_setCell V ⟨w.heap.size + 1, 0, none⟩ _ _ (by show w.heap.size + 1 + 1 ≠ w.heap.size + 1; omega)).trans M7.out; have d6 : (V.setCell ⟨w.heap.size + 1, 0, none⟩ (.int .i64 (-1))).heap[D]? = some (.deferred (some [])) := (Below.heap_setCell V ⟨w.heap.size + 1, 0, none⟩ _ D (by show D ≠ w.heap.size + 1; omega)).trans HKD.out; have b6 : Below w.heap.size w (V.setCell ⟨w.heap.size + 1, 0, none⟩ (.int .i64 (-1))) := HBW.out.setCell (p := ⟨w.heap.size + 1, 0, none⟩) (by show _ ≤ w.heap.size + 1; omega) _; obtain ⟨V3, hV3⟩ : ∃ V3, V3 = V.setCell ⟨w.heap.size + 1, 0, none⟩ (.int .i64 (-1)) := ⟨_, rfl⟩; rw [← hV3] at s6 s7 d6 b6 ⊢
    have t7 : (V3.setCell ⟨w.heap.size + 1 + 1, 0, none⟩ (.int .i64 0)).heap[w.heap.size + 1 + 1]? = some (.cells #[.int .i64 0] 48 (0, 0)) := by simpa using q21 s7 0 (.int .i64 0)
    have t6 : (V3.setCell ⟨w.heap.size + 1 + 1, 0, none⟩ (.int .i64 0)).heap[w.heap.size + 1]? = some (.cells #[.int .i64 (-1)] 3 (0, 0)) := (Below.heap_setCell V3 ⟨w.heap.size + 1 + 1, 0, none⟩ _ _ (by show w.heap.size + 1 ≠ w.heap.size + 1 + 1; omega)).trans s6; have d7 : (V3.setCell ⟨w.heap.size + 1 + 1, 0, none⟩ (.int .i64 0)).heap[D]? = some (.deferred (some [])) := (Below.heap_setCell V3 ⟨w.heap.size + 1 + 1, 0, none⟩ _ D (by show D ≠ w.heap.size + 1 + 1; omega)).trans d6; have b7 : Below w.heap.size w (V3.setCell ⟨w.heap.size + 1 + 1, 0, none⟩ (.int .i64 0)) := b6.setCell (p := ⟨w.heap.size + 1 + 1, 0, none⟩) (by show _ ≤ w.heap.size + 1 + 1; omega) _; obtain ⟨V4, hV4⟩ : ∃ V4, V4 = V3.setCell ⟨w.heap.size + 1 + 1, 0, none⟩ (.int .i64 0) := ⟨_, rfl⟩; rw [← hV4] at t6 t7 d7 b7 ⊢; have c0 : (V4.putObj D (.deferred none)).cell? ⟨w.heap.size + 1, 0, none⟩ = some (.int .i64 (-1)) := (q4 ((World.putObj_heap_other (by omega)).trans t6) 0).trans rfl; have c1 : (V4.putObj D (.deferred none)).cell? ⟨w.heap.size + 1 + 1, 0, none⟩ = some (.int .i64 0) := (q4 ((World.putObj_heap_other (by omega)).trans t7) 0).trans rfl; refine leave1c (v := .tuple #[.int .i64 (-1), .int .i64 0]) d7 (by simp [results, Try.results39, go_sem, c0, c1]) ⟨by rw [HRES.out], putObj_below b7 D _ (by omega) b7.size⟩
  case stop =>
    rintro D cd pre V hD hS ⟨rfl, p', y, rfl, h1, h2, h3, h4, h5⟩ hkD; have hres := whL_stop hS h1 h2; have HRES := Aside0.mk hres; have HKD := Aside0.mk hkD; have H3 := Aside0.mk h3; have H4 := Aside0.mk h4; have H5 := Aside0.mk h5; clear hkD h1 h2 h3 h4 h5 hS hres hC3
    gi_wp2
    have c0 : (V.putObj D (.deferred none)).cell? ⟨w.heap.size + 1, 0, none⟩ = some (.int .i64 y.i) := (q4 ((World.putObj_heap_other (by omega)).trans H3.out) 0).trans rfl; have c1 : (V.putObj D (.deferred none)).cell? ⟨w.heap.size + 1 + 1, 0, none⟩ = some (.int .i64 0) := (q4 ((World.putObj_heap_other (by omega)).trans H4.out) 0).trans rfl; refine leave1c (v := .tuple #[.int .i64 y.i, .int .i64 0]) HKD.out (by simp [results, Try.results39, go_sem, c0, c1]) ⟨by rw [HRES.out], putObj_below H5.out D _ (by omega) H5.out.size⟩
end
end Go.Proofs.Ytjhjhhibbmligaa.TE
