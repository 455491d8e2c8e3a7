/- Part of the walk: lemmas and printed functions that the claim uses (wip/tools/trim.py). -/
import Derived.Test.YtdbjjaodkapikaaLTEx1
import Derived.Test.YtdbjjaodkapikaaLTEx3
namespace Go.Proofs.Ytdbjjaodkapikaa.TE
open Go.RowKit Go.Proofs.YtdbjjaodkapikaaW.PrintWords Go.Proofs.YtdbjjaodkapikaaW.PrintLast Go.Proofs.YtdbjjaodkapikaaW.PrintMore
attribute [local go_sem] max2_int min2_int max_two min_two max_three min_three max_four min_four
set_option linter.unusedVariables false
set_option linter.unusedSimpArgs false
section
attribute [local go_sem] Oper.semAt_some
def term_Size.f (k : Nat) (l0 : List S42) : Option (Int × Int) := (term_depth.f k l0).map fun d => (wrap64 ((flat l0).length : Int), d)
set_option maxHeartbeats 4000000 in
theorem term_Size_1.calls (n : Nat) (B : Nat) (v : Int) (w : World) (hc : w.cell? ⟨B, 0, none⟩ = some (.int .i64 v)) (hf : w.frozen? ⟨B, 0, none⟩ = false) :
    CallsIn Fence.wide n Try.prog 63 #[.pointer (some ⟨B, 0, none⟩)] w fun e w' => e = .returned (.tuple #[]) ∧ w' = w.setCell ⟨B, 0, none⟩ (.int .i64 (wrap64 (v + 1))) := by
  refine callsIn_of_wp Try.func63 rfl trivial ?_ rfl; simp only [Try.ntmps63, List.size_toArray, List.length_cons, List.length_nil, Nat.reduceAdd, Nat.reduceSub, Array.replicate_succ, Array.replicate_zero, List.push_toArray, List.append_toArray, List.nil_append, List.cons_append]
  gi_wp2
  go_end0
  exact ⟨rfl, rfl⟩
set_option maxRecDepth 100000 in
set_option maxHeartbeats 4000000 in
theorem term_Size.calls (k : Nat) (A0 : Option Addr) (c0 : Nat) (l0 : List (S42)) (r1 : Int) (r2 : Int) (w : World) (hr0 : Kd.C k42 w A0 l0.length l0) (hc0 : l0.length ≤ c0) (h : term_Size.f k l0 = some (r1, r2)) :
    Calls Try.prog 17 #[.slice A0 l0.length c0] w fun e w' => e = .returned (.tuple #[.int .i64 r1, .int .i64 r2]) ∧ Below w.heap.size w w' := by
  obtain ⟨d, hd, he⟩ := Option.map_eq_some_iff.1 h; simp only [Prod.mk.injEq] at he; obtain ⟨rfl, rfl⟩ := he; have HD := Aside0.mk hd; clear hd h; refine calls_of_wp_marks Try.func17 rfl ?_; simp only [Try.ntmps17, List.size_toArray, List.length_cons, List.length_nil, Nat.reduceAdd, Nat.reduceSub, Array.replicate_succ, Array.replicate_zero, List.push_toArray, List.append_toArray, List.nil_append, List.cons_append]
  go_wp2_with (go_at_call 64; refine (callsIn_wide.1 (all_in 0 A0 l0.length c0 _)).mono ?_; rintro e w' ⟨rfl, rfl⟩)
  obtain ⟨Wl, hWl⟩ : ∃ Wl, ((w.alloc (.cells #[.int .i64 0] 3)).alloc (.cells #[.func (.func 63) #[] #[.pointer (some ⟨w.heap.size, 0, none⟩)]] 1)).alloc (.cells #[.slice A0 l0.length c0] 22) = Wl := ⟨_, rfl⟩
  have hbl : Below w.heap.size w Wl := by rw [← hWl]; exact (((Below.refl _ w).alloc (Nat.le_refl _) _).alloc (by simp) _).alloc (by simp; omega) _
  have hszl : Wl.heap.size = w.heap.size + 3 := by rw [← hWl]; simp
  have hn0 : Wl.heap[w.heap.size]? = some (.cells #[.int .i64 0] 3 (0, 0)) := by
    rw [← hWl]; exact (Below.heap_alloc _ _ _ (by simp; omega)).trans ((Below.heap_alloc _ _ _ (by simp)).trans (World.alloc_heap_new w _))
  have hc1 : Wl.heap[w.heap.size + 1]? = some (.cells #[.func (.func 63) #[] #[.pointer (some ⟨w.heap.size, 0, none⟩)]] 1 (0, 0)) := by
    rw [← hWl]; have := World.alloc_heap_new (w.alloc (.cells #[.int .i64 0] 3)) (.cells #[.func (.func 63) #[] #[.pointer (some ⟨w.heap.size, 0, none⟩)]] 1); rw [World.size_alloc] at this; exact (Below.heap_alloc _ _ _ (by simp)).trans this
  have hl2 : Wl.heap[w.heap.size + 2]? = some (.cells #[.slice A0 l0.length c0] 22 (0, 0)) := by
    rw [← hWl]; have := World.alloc_heap_new ((w.alloc (.cells #[.int .i64 0] 3)).alloc (.cells #[.func (.func 63) #[] #[.pointer (some ⟨w.heap.size, 0, none⟩)]] 1)) (.cells #[.slice A0 l0.length c0] 22); rw [World.size_alloc, World.size_alloc] at this; exact this
  rw [hWl]
  have hdd : ∀ k lp : Nat, ((Fence.wide.inRound lp).depth.isSome = true → 1 ≤ k) := fun k lp h => by simp [Fence.wide] at h
  refine range_all w hbl (w.heap.size + 2) A0 c0 l0 hr0 hc0 ((q5 hl2 0).trans rfl) rfl
    (fun pre W => (Below w.heap.size w W ∧ W.heap[w.heap.size]? = some (.cells #[.int .i64 (wrap64 (pre.length : Int))] 3 (0, 0))) ∧ W.heap[w.heap.size + 1]? = some (.cells #[.func (.func 63) #[] #[.pointer (some ⟨w.heap.size, 0, none⟩)]] 1 (0, 0)))
    (fun _ _ _ => False)
    (OwnFrom.and (OwnFrom.and (ownFrom_below (Nat.le_refl _) hbl.size) (ownFrom_blk _ _ _ _)) (ownFrom_blk _ _ _ _)) (fun _ _ _ _ _ hs _ _ => hs)
    ⟨⟨hbl, by rw [hn0]; simp [wrap64]⟩, hc1⟩
    (fun x => { tmps := #[.slice A0 l0.length c0, undef, .pointer (some ⟨w.heap.size, 0, none⟩), .int .i64 0, .pointer (some ⟨w.heap.size + 1, 0, none⟩), .func (.func 63) #[] #[.pointer (some ⟨w.heap.size, 0, none⟩)], .slice A0 l0.length c0, .func (.func 101) #[] #[.pointer (some ⟨w.heap.size + 2, 0, none⟩)], .agg #[.int .i64 x.x.f0, .string x.x.f1, .slice x.A x.x.f2.length x.c], undef, undef, undef, undef, undef], defers := [] }) ?assign ?body ?done ?stop
  case assign =>
    intro lp x W K hK
    gi_wp2
    exact hK
  case body =>
    rintro lp pre x W ⟨⟨hb, hn⟩, hc⟩ hlen; have hcn : W.cell? ⟨w.heap.size, 0, none⟩ = some (.int .i64 (wrap64 (pre.length : Int))) := (q5 hn 0).trans rfl; have hfn := q13 hn 0; have hcc : W.cell? ⟨w.heap.size + 1, 0, none⟩ = some (.func (.func 63) #[] #[.pointer (some ⟨w.heap.size, 0, none⟩)]) := (q5 hc 0).trans rfl; have HN := Aside0.mk hn; have HC := Aside0.mk hc; clear hn hc hn0 hc1 hl2 hWl
    gi_wp2_with (fail)
    refine ⟨trivial, (CallsIn.inRound lp (term_Size_1.calls _ _ _ W hcn hfn)).mono ?_⟩; rintro e w' ⟨rfl, rfl⟩; clear hcn hcc hfn
    gi_wp2
    refine ⟨KeepsOthers.setCell _ _ _, KeepC.setCell _ _ _ _ (Nat.le_refl _) (by omega), ⟨hb.setCell (p := ⟨w.heap.size, 0, none⟩) (Nat.le_refl _) _, ?_⟩, (Below.heap_setCell W ⟨w.heap.size, 0, none⟩ _ (w.heap.size + 1) (by simp)).trans HC.out⟩; have hs := setCell_blk (u := .int .i64 (wrap64 (wrap64 (pre.length : Int) + 1))) HN.out; rw [hs]; simp only [List.length_append, List.length_cons, List.length_nil]
    congr 5
    unfold wrap64
    omega
  case done =>
    rintro D ys W hD hys ⟨⟨hb, hn⟩, hc⟩ hk
    have hlen : ys.length = (flat l0).length := by have := congrArg List.length hys; simpa using this
    rw [hlen] at hn; have hCd : Kd.C k42 W.drew A0 l0.length l0 := Kd.C_below hr0 (below_drew hb); clear hc hn0 hc1 hl2 hWl hys hlen
    go_wp2_with (fail)
    refine start_ (n := 5) (S := fun w' => w'.cell? ⟨w.heap.size, 0, none⟩ = some (.int .i64 (wrap64 ((flat l0).length : Int))) ∧ w'.frozen? ⟨w.heap.size, 0, none⟩ = false) (ds := [3]) #[false, false, false, false, false] (by kernel_rfl) rfl rfl ⟨(q5 hn 0).trans rfl, q13 hn 0⟩ (fun hHeld => ?_); refine pure_ (i := 1) (N := some 12) (v := ?_) (a' := ?_) #[false, true, false, false, false] rfl rfl (by kernel_rfl) (fun _ _ _ h => h) (Or.inl ⟨by rfl, ?_⟩) ?_ ?_; rotate_left
    · intro w'; go_simp; with_reducible rfl
    rotate_left
    · simp only [Act.put, List.setIfInBounds_toArray, List.set_cons_zero, List.set_cons_succ, i64_w, i32_w]; rfl
    refine take_ (i := 0) (N := some 11) (v := ?_) (a' := ?_) #[true, true, false, false, false] rfl rfl (by kernel_rfl) (fun _ _ _ h => h) (Or.inl ⟨by rfl, ?_⟩) hHeld ?_ ?_; rotate_left
    · rintro w' ⟨s0, s1⟩; go_simp; with_reducible rfl
    rotate_left
    · simp only [Act.put, List.setIfInBounds_toArray, List.set_cons_zero, List.set_cons_succ, i64_w, i32_w]; rfl
    refine one_ (i := 2) (N := some 13) #[true, true, true, false, false] rfl rfl (by kernel_rfl) (by decide) (fun K hK => ?_); refine goes_ Try.func65 (by kernel_rfl) rfl #[.slice A0 l0.length c0] (by rfl) rfl rfl (by simp only [List.map_toArray, List.map_cons, List.map_nil]; rfl) ?_; with_reducible refine (term_depth.calls k A0 c0 l0 d _ hCd hc0 HD.out).mono ?_
    rintro e w3 ⟨rfl, hb3⟩; refine ⟨_, rfl, ?_⟩; have hn3 := blk_below (w := W.drew) (g := w.heap.size) (o := .cells #[.int .i64 (wrap64 ((flat l0).length : Int))] 3 (0, 0)) hn hb3; refine hK.out _ _ ⟨(q5 hn3 0).trans rfl, q13 hn3 0⟩ (fun hHeld => ?_); clear hK K; refine norm_ (a' := ?_) ?_ ?_; rotate_left
    · show Act.put _ (some 13) _ = _; simp only [Act.put, List.setIfInBounds_toArray, List.set_cons_zero, List.set_cons_succ, i64_w, i32_w]; rfl
    refine last_ (i := 3) (N := none) #[true, true, true, true, false] rfl rfl (by kernel_rfl) (by decide) (fun K hK => ?_); refine skip_ (w1 := ?_) (by rfl) rfl ?_ ?_; rotate_left
    · go_simp; rfl
    refine hK.out _ _ ?_; clear hK K; refine pure_ (i := 4) (N := some 3) (v := ?_) (a' := ?_) #[true, true, true, true, true] rfl rfl (by kernel_rfl) (fun _ _ _ h => h) (Or.inl ⟨by rfl, ?_⟩) ?_ ?_; rotate_left
    · intro w'; go_simp; with_reducible rfl
    rotate_left
    · simp only [Act.put, List.setIfInBounds_toArray, List.set_cons_zero, List.set_cons_succ, i64_w, i32_w]; rfl
    refine done_ (by kernel_rfl) ?_
    go_wp2_with (fail)
    have hk3 : w3.heap[D]? = some (.deferred (some [])) := (hb3.block D (Array.getElem?_eq_some_iff.1 hk).1).trans hk; have hs3 := setCell_blk (u := .int .i64 (wrap64 ((flat l0).length : Int))) hn3
    have hne : w.heap.size ≠ D := by omega
    have hk4 : (w3.setCell ⟨w.heap.size, 0, none⟩ (.int .i64 (wrap64 ((flat l0).length : Int)))).heap[D]? = some (.deferred (some [])) := (Below.heap_setCell w3 ⟨w.heap.size, 0, none⟩ _ D (by simp; omega)).trans hk3; have hb4 : Below w.heap.size w ((w3.setCell ⟨w.heap.size, 0, none⟩ (.int .i64 (wrap64 ((flat l0).length : Int)))).putObj D (.deferred none)) :=
      (((below_drew hb).trans (hb3.mono (below_drew hb).size)).setCell (p := ⟨w.heap.size, 0, none⟩) (Nat.le_refl _) _).grown (grownBy_putObj' _ D _) (by have := (Array.getElem?_eq_some_iff.1 hk4).1; omega) (fun k e => by cases e; omega)
    have hc5 : ((w3.setCell ⟨w.heap.size, 0, none⟩ (.int .i64 (wrap64 ((flat l0).length : Int)))).putObj D (.deferred none)).cell? ⟨w.heap.size, 0, none⟩ = some (.int .i64 (wrap64 ((flat l0).length : Int))) :=
      (q5 ((World.putObj_heap_other hne).trans hs3) 0).trans rfl
    refine ⟨by simp, .inl ⟨_, _, rfl, run_takeDeferred hk4, ?_⟩⟩; refine ⟨.tuple #[.int .i64 (wrap64 ((flat l0).length : Int)), .int .i64 d], ?_, rfl, hb4⟩; simp [results, Try.results17, go_sem, hc5]
  case stop =>
    rintro D c pre W _ _ h _; exact h.elim
end
mutual
def chiasmusref01_Size.l0 : Nat → List (S42) → Int → Int → Int → Option (Int × Int)
  | 0, _, _, _, _ => none
  | k + 1, x0, x4, x5, x6 => if x6 < (x0.length : Int) then (if 0 ≤ x6 then ((chiasmusref01_Size.f k ((rd_T42 x0 x6).f2)).bind fun bt213 => (if ((rd_T42 x0 x6).f0) = 4 then (chiasmusref01_Size.l0 k x0 (wrap64 ((wrap64 (x4 + bt213.1)) + 1)) (mx x5 (wrap64 (bt213.2 + 1))) (wrap64 (x6 + 1))) else (if ((rd_T42 x0 x6).f0) = 8 then (chiasmusref01_Size.l0 k x0 (wrap64 ((wrap64 (x4 + bt213.1)) + 1)) (mx x5 (wrap64 (bt213.2 + 1))) (wrap64 (x6 + 1))) else (if (((rd_T42 x0 x6).f2).length : Int) > 0 then (chiasmusref01_Size.l0 k x0 (wrap64 ((wrap64 (x4 + bt213.1)) + 1)) (mx x5 (wrap64 (bt213.2 + 1))) (wrap64 (x6 + 1))) else (chiasmusref01_Size.l0 k x0 (wrap64 ((wrap64 (x4 + bt213.1)) + 1)) (mx x5 bt213.2) (wrap64 (x6 + 1))))))) else (none)) else (some (x4, x5))
def chiasmusref01_Size.f : Nat → List (S42) → Option (Int × Int)
  | 0, _ => none
  | k + 1, l0 => chiasmusref01_Size.l0 k l0 0 0 0
end
set_option maxHeartbeats 8000000 in
set_option maxRecDepth 100000 in
theorem chiasmusref01_Size.calls (k : Nat) : ∀ (A0 : Option Addr) (c0 : Nat) (l0 : List (S42)) (r1 : Int) (r2 : Int) (w : World) (hr0 : Kd.C k42 w A0 l0.length l0) (hc0 : l0.length ≤ c0) (h : chiasmusref01_Size.f k l0 = some (r1, r2)),
    Calls Try.prog 18 #[.slice A0 l0.length c0] w fun e w' => e = .returned (.tuple #[.int .i64 r1, .int .i64 r2]) ∧ Below w.heap.size w w' := by
  induction k using Nat.strongRecOn with
  | _ k ih =>
  intro A0 c0 l0 r1 r2 w hr0 hc0 h
  cases k with
  | zero => exact absurd h (by simp [chiasmusref01_Size.f])
  | succ k =>
  simp only [chiasmusref01_Size.f] at h; have HR0 := Aside0.mk hr0; have HC0 := Aside0.mk hc0; clear hr0 hc0; have HB := Aside0.mk (Below.refl w.heap.size w); have H : (chiasmusref01_Size.l0 k l0 0 0 0) = some (r1, r2) := h; clear h; have H' := Aside0.mk H; clear H
  go_enter Try.func18, Try.ntmps18
  go_wp2
  go_loopg [4, 5, 6] k (fun kq v4 v5 v6 w' => ∃ (x4_1 : Int) (x5_1 : Int) (x6_1 : Int), v4 = .int .i64 x4_1 ∧ v5 = .int .i64 x5_1 ∧ v6 = .int .i64 x6_1 ∧ Aside0 (chiasmusref01_Size.l0 kq l0 x4_1 x5_1 x6_1 = some (r1, r2)) ∧ Aside0 (kq ≤ k) ∧ Aside0 (Below w.heap.size w w'))
  case atStart => exact ⟨(0), (0), (0), (by first | rfl | (simp; done) | (simp [*]; done)), (by first | rfl | (simp; done) | (simp [*]; done)), (by first | rfl | (simp; done) | (simp [*]; done)), H', ⟨Nat.le_refl _⟩, ⟨by repeat (first | (with_reducible first | exact HB.out | apply q11 | apply q9 | apply q10) | exact HB.out)⟩⟩
  case round =>
    clear H'
    try clear c1
    obtain ⟨x4_1, x5_1, x6_1, rfl, rfl, rfl, HA, HK1, HB⟩ := hrel
    cases gk with
    | zero => exact absurd HA.out (by simp [chiasmusref01_Size.l0])
    | succ k1 =>
      have H := HA.out; clear HA; simp only [chiasmusref01_Size.l0] at H
      by_cases c2 : x6_1 < (l0.length : Int)
      · rw [if_pos c2] at H; have c2b0 : decide (x6_1 < (l0.length : Int)) = true := decide_eq_true c2; clear c2
        by_cases c3 : 0 ≤ x6_1
        · rw [if_pos c3] at H; have c3b0 : decide (0 ≤ x6_1) = true := decide_eq_true c3; clear c3; replace H := Option.bind_eq_some_iff.mp H; obtain ⟨⟨t213, t214⟩, A40, H⟩ := H; replace H : (if ((rd_T42 l0 x6_1).f0) = 4 then (chiasmusref01_Size.l0 k1 l0 (wrap64 ((wrap64 (x4_1 + t213)) + 1)) (mx x5_1 (wrap64 (t214 + 1))) (wrap64 (x6_1 + 1))) else (if ((rd_T42 l0 x6_1).f0) = 8 then (chiasmusref01_Size.l0 k1 l0 (wrap64 ((wrap64 (x4_1 + t213)) + 1)) (mx x5_1 (wrap64 (t214 + 1))) (wrap64 (x6_1 + 1))) else (if (((rd_T42 l0 x6_1).f2).length : Int) > 0 then (chiasmusref01_Size.l0 k1 l0 (wrap64 ((wrap64 (x4_1 + t213)) + 1)) (mx x5_1 (wrap64 (t214 + 1))) (wrap64 (x6_1 + 1))) else (chiasmusref01_Size.l0 k1 l0 (wrap64 ((wrap64 (x4_1 + t213)) + 1)) (mx x5_1 t214) (wrap64 (x6_1 + 1)))))) = some (r1, r2) := H; have A4 := Aside0.mk A40; clear A40
          by_cases c5 : ((rd_T42 l0 x6_1).f0) = 4
          · rw [if_pos c5] at H; have c5b0 : (((rd_T42 l0 x6_1).f0) == 4) = true := beq_iff_eq.mpr c5; have c5b1 : (((rd_T42 l0 x6_1).f0) != 4) = false := bne_eq_false_iff_eq.mpr c5; clear c5; obtain ⟨ji6, hji6⟩ : ∃ j_ : Int, (mx x5_1 (wrap64 (t214 + 1))) = j_ := ⟨_, rfl⟩
            replace H : (chiasmusref01_Size.l0 k1 l0 (wrap64 ((wrap64 (x4_1 + t213)) + 1)) ji6 (wrap64 (x6_1 + 1))) = some (r1, r2) := by first | (rw [hji6] at H; exact H) | (simp only [hji6] at H ⊢; exact H)
            (try rw [hji6] at A4)
            have hji6_ : (if x5_1 < (wrap64 (t214 + 1)) then (wrap64 (t214 + 1)) else x5_1) = ji6 := hji6; have H' := Aside0.mk H; clear H; have p212 : 0 ≤ (x6_1 : Int) := of_decide_eq_true (by first | (with_reducible assumption) | assumption); have q212 : x6_1 < (l0.length : Int) := of_decide_eq_true (by first | (with_reducible assumption) | assumption); obtain ⟨ad212, A212_2, c212_2, e212, hx212_0, hx212_1, hx212_2, hl212_2, hi212_2⟩ := at_T42 HR0.out x6_1 p212 q212; cases e212; replace hx212_0 := (HB.out.cell (World.block_lt_of_cell? w _ hx212_0)).trans hx212_0; replace hx212_1 := (HB.out.cell (World.block_lt_of_cell? w _ hx212_1)).trans hx212_1; replace hx212_2 := (HB.out.cell (World.block_lt_of_cell? w _ hx212_2)).trans hx212_2; have HR212_2 := Aside0.mk hi212_2; have HC212_2 := Aside0.mk hl212_2; clear hi212_2 hl212_2; replace p212 := eq_true p212; replace q212 := eq_true q212
            go_wp2_with (first | ((with_reducible refine q15 (f := 18) rfl ?_); refine goesL_ (some 21) rfl rfl Try.func18 (by kernel_rfl) rfl #[.slice A212_2 ((rd_T42 l0 x6_1).f2).length c212_2] rfl (by (try simp only [List.map_toArray, List.map_cons, List.map_nil]); first | done | rfl | (simp only [List.length_drop, List.length_take]; rfl)) ?_; (with_reducible refine (ih k1 (by have := HK1.out; omega) _ _ ((rd_T42 l0 x6_1).f2) t213 t214 _ ?side1 ?side2 A4.out).mono ?_); (case side1 => repeat (first | exact (Kd.C_below HR212_2.out HB.out) | (with_reducible refine Kd.C_alloc ?_ _) | (with_reducible refine Kd.C_drewN ?_ _) | (with_reducible refine Kd.C_drew ?_))); (case side2 => exact HC212_2.out); rintro e w7 ⟨rfl, hb⟩; refine ⟨_, rfl, ?_⟩; have n0_ := Aside0.mk (q14 (by repeat (first | (with_reducible first | exact HB.out | apply q11 | apply q9 | apply q10) | exact HB.out)) hb); clear HB; have HB := n0_; clear n0_; (try clear hb); (try clear hb2); (try clear hk); (try clear hi); have p215 : 0 ≤ (x6_1 : Int) := of_decide_eq_true (by first | (with_reducible assumption) | assumption); have q215 : x6_1 < (l0.length : Int) := of_decide_eq_true (by first | (with_reducible assumption) | assumption); obtain ⟨ad215, A215_2, c215_2, e215, hx215_0, hx215_1, hx215_2, hl215_2, hi215_2⟩ := at_T42 HR0.out x6_1 p215 q215; obtain rfl : ad212 = ad215 := (by injection e215); replace hx215_0 := (HB.out.cell (World.block_lt_of_cell? w _ hx215_0)).trans hx215_0; replace hx215_1 := (HB.out.cell (World.block_lt_of_cell? w _ hx215_1)).trans hx215_1; replace hx215_2 := (HB.out.cell (World.block_lt_of_cell? w _ hx215_2)).trans hx215_2; have HR215_2 := Aside0.mk hi215_2; have HC215_2 := Aside0.mk hl215_2; clear hi215_2 hl215_2; replace p215 := eq_true p215; replace q215 := eq_true q215))
            go_roundg k1
            case measure => have := HK1.out; omega
            case rel => exact ⟨(wrap64 ((wrap64 (x4_1 + t213)) + 1)), (ji6), (wrap64 (x6_1 + 1)), (by first | rfl | (simp; done) | (simp [*]; done)), (by first | rfl | (simp; done) | (simp only [← hji6] <;> (first | rfl | simp)) | (simp [*]; done)), (by first | rfl | (simp; done) | (simp [*]; done)), H', ⟨by have := HK1.out; omega⟩, ⟨by repeat (first | (with_reducible first | exact HB.out | apply q11 | apply q9 | apply q10) | exact HB.out)⟩⟩
          · rw [if_neg c5] at H; have c5b0 : (((rd_T42 l0 x6_1).f0) == 4) = false := beq_eq_false_iff_ne.mpr c5; have c5b1 : (((rd_T42 l0 x6_1).f0) != 4) = true := bne_iff_ne.mpr c5
            by_cases c8 : ((rd_T42 l0 x6_1).f0) = 8
            · rw [if_pos c8] at H; have c8b0 : (((rd_T42 l0 x6_1).f0) == 8) = true := beq_iff_eq.mpr c8; have c8b1 : (((rd_T42 l0 x6_1).f0) != 8) = false := bne_eq_false_iff_eq.mpr c8; clear c8; obtain ⟨ji9, hji9⟩ : ∃ j_ : Int, (mx x5_1 (wrap64 (t214 + 1))) = j_ := ⟨_, rfl⟩
              replace H : (chiasmusref01_Size.l0 k1 l0 (wrap64 ((wrap64 (x4_1 + t213)) + 1)) ji9 (wrap64 (x6_1 + 1))) = some (r1, r2) := by first | (rw [hji9] at H; exact H) | (simp only [hji9] at H ⊢; exact H)
              (try rw [hji9] at A4)
              have hji9_ : (if x5_1 < (wrap64 (t214 + 1)) then (wrap64 (t214 + 1)) else x5_1) = ji9 := hji9; have H' := Aside0.mk H; clear H; have p212 : 0 ≤ (x6_1 : Int) := of_decide_eq_true (by first | (with_reducible assumption) | assumption); have q212 : x6_1 < (l0.length : Int) := of_decide_eq_true (by first | (with_reducible assumption) | assumption); obtain ⟨ad212, A212_2, c212_2, e212, hx212_0, hx212_1, hx212_2, hl212_2, hi212_2⟩ := at_T42 HR0.out x6_1 p212 q212; cases e212; replace hx212_0 := (HB.out.cell (World.block_lt_of_cell? w _ hx212_0)).trans hx212_0; replace hx212_1 := (HB.out.cell (World.block_lt_of_cell? w _ hx212_1)).trans hx212_1; replace hx212_2 := (HB.out.cell (World.block_lt_of_cell? w _ hx212_2)).trans hx212_2; have HR212_2 := Aside0.mk hi212_2; have HC212_2 := Aside0.mk hl212_2; clear hi212_2 hl212_2; replace p212 := eq_true p212; replace q212 := eq_true q212
              go_wp2_with (first | ((with_reducible refine q15 (f := 18) rfl ?_); refine goesL_ (some 21) rfl rfl Try.func18 (by kernel_rfl) rfl #[.slice A212_2 ((rd_T42 l0 x6_1).f2).length c212_2] rfl (by (try simp only [List.map_toArray, List.map_cons, List.map_nil]); first | done | rfl | (simp only [List.length_drop, List.length_take]; rfl)) ?_; (with_reducible refine (ih k1 (by have := HK1.out; omega) _ _ ((rd_T42 l0 x6_1).f2) t213 t214 _ ?side1 ?side2 A4.out).mono ?_); (case side1 => repeat (first | exact (Kd.C_below HR212_2.out HB.out) | (with_reducible refine Kd.C_alloc ?_ _) | (with_reducible refine Kd.C_drewN ?_ _) | (with_reducible refine Kd.C_drew ?_))); (case side2 => exact HC212_2.out); rintro e w10 ⟨rfl, hb⟩; refine ⟨_, rfl, ?_⟩; have n0_ := Aside0.mk (q14 (by repeat (first | (with_reducible first | exact HB.out | apply q11 | apply q9 | apply q10) | exact HB.out)) hb); clear HB; have HB := n0_; clear n0_; (try clear hb); (try clear hb2); (try clear hk); (try clear hi); have p215 : 0 ≤ (x6_1 : Int) := of_decide_eq_true (by first | (with_reducible assumption) | assumption); have q215 : x6_1 < (l0.length : Int) := of_decide_eq_true (by first | (with_reducible assumption) | assumption); obtain ⟨ad215, A215_2, c215_2, e215, hx215_0, hx215_1, hx215_2, hl215_2, hi215_2⟩ := at_T42 HR0.out x6_1 p215 q215; obtain rfl : ad212 = ad215 := (by injection e215); replace hx215_0 := (HB.out.cell (World.block_lt_of_cell? w _ hx215_0)).trans hx215_0; replace hx215_1 := (HB.out.cell (World.block_lt_of_cell? w _ hx215_1)).trans hx215_1; replace hx215_2 := (HB.out.cell (World.block_lt_of_cell? w _ hx215_2)).trans hx215_2; have HR215_2 := Aside0.mk hi215_2; have HC215_2 := Aside0.mk hl215_2; clear hi215_2 hl215_2; replace p215 := eq_true p215; replace q215 := eq_true q215; have p216 : 0 ≤ (x6_1 : Int) := of_decide_eq_true (by first | (with_reducible assumption) | assumption); have q216 : x6_1 < (l0.length : Int) := of_decide_eq_true (by first | (with_reducible assumption) | assumption); obtain ⟨ad216, A216_2, c216_2, e216, hx216_0, hx216_1, hx216_2, hl216_2, hi216_2⟩ := at_T42 HR0.out x6_1 p216 q216; obtain rfl : ad212 = ad216 := (by injection e216); replace hx216_0 := (HB.out.cell (World.block_lt_of_cell? w _ hx216_0)).trans hx216_0; replace hx216_1 := (HB.out.cell (World.block_lt_of_cell? w _ hx216_1)).trans hx216_1; replace hx216_2 := (HB.out.cell (World.block_lt_of_cell? w _ hx216_2)).trans hx216_2; have HR216_2 := Aside0.mk hi216_2; have HC216_2 := Aside0.mk hl216_2; clear hi216_2 hl216_2; replace p216 := eq_true p216; replace q216 := eq_true q216; have ea_ := Option.some.inj (hx215_2.symm.trans hx216_2); injection ea_ with ea_ en_ ec_; subst ea_; subst ec_; clear en_))
              go_roundg k1
              case measure => have := HK1.out; omega
              case rel => exact ⟨(wrap64 ((wrap64 (x4_1 + t213)) + 1)), (ji9), (wrap64 (x6_1 + 1)), (by first | rfl | (simp; done) | (simp [*]; done)), (by first | rfl | (simp; done) | (simp only [← hji9] <;> (first | rfl | simp)) | (simp [*]; done)), (by first | rfl | (simp; done) | (simp [*]; done)), H', ⟨by have := HK1.out; omega⟩, ⟨by repeat (first | (with_reducible first | exact HB.out | apply q11 | apply q9 | apply q10) | exact HB.out)⟩⟩
            · rw [if_neg c8] at H; have c8b0 : (((rd_T42 l0 x6_1).f0) == 8) = false := beq_eq_false_iff_ne.mpr c8; have c8b1 : (((rd_T42 l0 x6_1).f0) != 8) = true := bne_iff_ne.mpr c8
              by_cases c11 : (((rd_T42 l0 x6_1).f2).length : Int) > 0
              · rw [if_pos c11] at H; have c11b0 : decide (0 < (((rd_T42 l0 x6_1).f2).length : Int)) = true := decide_eq_true c11; have c11b1 : decide (0 < ((rd_T42 l0 x6_1).f2).length) = true := decide_eq_true (by omega); clear c11; obtain ⟨ji12, hji12⟩ : ∃ j_ : Int, (mx x5_1 (wrap64 (t214 + 1))) = j_ := ⟨_, rfl⟩
                replace H : (chiasmusref01_Size.l0 k1 l0 (wrap64 ((wrap64 (x4_1 + t213)) + 1)) ji12 (wrap64 (x6_1 + 1))) = some (r1, r2) := by first | (rw [hji12] at H; exact H) | (simp only [hji12] at H ⊢; exact H)
                (try rw [hji12] at A4)
                have hji12_ : (if x5_1 < (wrap64 (t214 + 1)) then (wrap64 (t214 + 1)) else x5_1) = ji12 := hji12; have H' := Aside0.mk H; clear H; have p212 : 0 ≤ (x6_1 : Int) := of_decide_eq_true (by first | (with_reducible assumption) | assumption); have q212 : x6_1 < (l0.length : Int) := of_decide_eq_true (by first | (with_reducible assumption) | assumption); obtain ⟨ad212, A212_2, c212_2, e212, hx212_0, hx212_1, hx212_2, hl212_2, hi212_2⟩ := at_T42 HR0.out x6_1 p212 q212; cases e212; replace hx212_0 := (HB.out.cell (World.block_lt_of_cell? w _ hx212_0)).trans hx212_0; replace hx212_1 := (HB.out.cell (World.block_lt_of_cell? w _ hx212_1)).trans hx212_1; replace hx212_2 := (HB.out.cell (World.block_lt_of_cell? w _ hx212_2)).trans hx212_2; have HR212_2 := Aside0.mk hi212_2; have HC212_2 := Aside0.mk hl212_2; clear hi212_2 hl212_2; replace p212 := eq_true p212; replace q212 := eq_true q212
                go_wp2_with (first | ((with_reducible refine q15 (f := 18) rfl ?_); refine goesL_ (some 21) rfl rfl Try.func18 (by kernel_rfl) rfl #[.slice A212_2 ((rd_T42 l0 x6_1).f2).length c212_2] rfl (by (try simp only [List.map_toArray, List.map_cons, List.map_nil]); first | done | rfl | (simp only [List.length_drop, List.length_take]; rfl)) ?_; (with_reducible refine (ih k1 (by have := HK1.out; omega) _ _ ((rd_T42 l0 x6_1).f2) t213 t214 _ ?side1 ?side2 A4.out).mono ?_); (case side1 => repeat (first | exact (Kd.C_below HR212_2.out HB.out) | (with_reducible refine Kd.C_alloc ?_ _) | (with_reducible refine Kd.C_drewN ?_ _) | (with_reducible refine Kd.C_drew ?_))); (case side2 => exact HC212_2.out); rintro e w13 ⟨rfl, hb⟩; refine ⟨_, rfl, ?_⟩; have n0_ := Aside0.mk (q14 (by repeat (first | (with_reducible first | exact HB.out | apply q11 | apply q9 | apply q10) | exact HB.out)) hb); clear HB; have HB := n0_; clear n0_; (try clear hb); (try clear hb2); (try clear hk); (try clear hi); have p215 : 0 ≤ (x6_1 : Int) := of_decide_eq_true (by first | (with_reducible assumption) | assumption); have q215 : x6_1 < (l0.length : Int) := of_decide_eq_true (by first | (with_reducible assumption) | assumption); obtain ⟨ad215, A215_2, c215_2, e215, hx215_0, hx215_1, hx215_2, hl215_2, hi215_2⟩ := at_T42 HR0.out x6_1 p215 q215; obtain rfl : ad212 = ad215 := (by injection e215); replace hx215_0 := (HB.out.cell (World.block_lt_of_cell? w _ hx215_0)).trans hx215_0; replace hx215_1 := (HB.out.cell (World.block_lt_of_cell? w _ hx215_1)).trans hx215_1; replace hx215_2 := (HB.out.cell (World.block_lt_of_cell? w _ hx215_2)).trans hx215_2; have HR215_2 := Aside0.mk hi215_2; have HC215_2 := Aside0.mk hl215_2; clear hi215_2 hl215_2; replace p215 := eq_true p215; replace q215 := eq_true q215; have p216 : 0 ≤ (x6_1 : Int) := of_decide_eq_true (by first | (with_reducible assumption) | assumption); have q216 : x6_1 < (l0.length : Int) := of_decide_eq_true (by first | (with_reducible assumption) | assumption); obtain ⟨ad216, A216_2, c216_2, e216, hx216_0, hx216_1, hx216_2, hl216_2, hi216_2⟩ := at_T42 HR0.out x6_1 p216 q216; obtain rfl : ad212 = ad216 := (by injection e216); replace hx216_0 := (HB.out.cell (World.block_lt_of_cell? w _ hx216_0)).trans hx216_0; replace hx216_1 := (HB.out.cell (World.block_lt_of_cell? w _ hx216_1)).trans hx216_1; replace hx216_2 := (HB.out.cell (World.block_lt_of_cell? w _ hx216_2)).trans hx216_2; have HR216_2 := Aside0.mk hi216_2; have HC216_2 := Aside0.mk hl216_2; clear hi216_2 hl216_2; replace p216 := eq_true p216; replace q216 := eq_true q216; have ea_ := Option.some.inj (hx215_2.symm.trans hx216_2); injection ea_ with ea_ en_ ec_; subst ea_; subst ec_; clear en_; have p217 : 0 ≤ (x6_1 : Int) := of_decide_eq_true (by first | (with_reducible assumption) | assumption); have q217 : x6_1 < (l0.length : Int) := of_decide_eq_true (by first | (with_reducible assumption) | assumption); obtain ⟨ad217, A217_2, c217_2, e217, hx217_0, hx217_1, hx217_2, hl217_2, hi217_2⟩ := at_T42 HR0.out x6_1 p217 q217; obtain rfl : ad212 = ad217 := (by injection e217); replace hx217_0 := (HB.out.cell (World.block_lt_of_cell? w _ hx217_0)).trans hx217_0; replace hx217_1 := (HB.out.cell (World.block_lt_of_cell? w _ hx217_1)).trans hx217_1; replace hx217_2 := (HB.out.cell (World.block_lt_of_cell? w _ hx217_2)).trans hx217_2; have HR217_2 := Aside0.mk hi217_2; have HC217_2 := Aside0.mk hl217_2; clear hi217_2 hl217_2; replace p217 := eq_true p217; replace q217 := eq_true q217; have ea_ := Option.some.inj (hx215_2.symm.trans hx217_2); injection ea_ with ea_ en_ ec_; subst ea_; subst ec_; clear en_))
                go_roundg k1
                case measure => have := HK1.out; omega
                case rel => exact ⟨(wrap64 ((wrap64 (x4_1 + t213)) + 1)), (ji12), (wrap64 (x6_1 + 1)), (by first | rfl | (simp; done) | (simp [*]; done)), (by first | rfl | (simp; done) | (simp only [← hji12] <;> (first | rfl | simp)) | (simp [*]; done)), (by first | rfl | (simp; done) | (simp [*]; done)), H', ⟨by have := HK1.out; omega⟩, ⟨by repeat (first | (with_reducible first | exact HB.out | apply q11 | apply q9 | apply q10) | exact HB.out)⟩⟩
              · rw [if_neg c11] at H; have c11b0 : decide (0 < (((rd_T42 l0 x6_1).f2).length : Int)) = false := decide_eq_false c11; have c11b1 : decide (0 < ((rd_T42 l0 x6_1).f2).length) = false := decide_eq_false (by omega); clear c11; obtain ⟨ji14, hji14⟩ : ∃ j_ : Int, (mx x5_1 t214) = j_ := ⟨_, rfl⟩
                replace H : (chiasmusref01_Size.l0 k1 l0 (wrap64 ((wrap64 (x4_1 + t213)) + 1)) ji14 (wrap64 (x6_1 + 1))) = some (r1, r2) := by first | (rw [hji14] at H; exact H) | (simp only [hji14] at H ⊢; exact H)
                (try rw [hji14] at A4)
                have hji14_ : (if x5_1 < t214 then t214 else x5_1) = ji14 := hji14; have H' := Aside0.mk H; clear H; have p212 : 0 ≤ (x6_1 : Int) := of_decide_eq_true (by first | (with_reducible assumption) | assumption); have q212 : x6_1 < (l0.length : Int) := of_decide_eq_true (by first | (with_reducible assumption) | assumption); obtain ⟨ad212, A212_2, c212_2, e212, hx212_0, hx212_1, hx212_2, hl212_2, hi212_2⟩ := at_T42 HR0.out x6_1 p212 q212; cases e212; replace hx212_0 := (HB.out.cell (World.block_lt_of_cell? w _ hx212_0)).trans hx212_0; replace hx212_1 := (HB.out.cell (World.block_lt_of_cell? w _ hx212_1)).trans hx212_1; replace hx212_2 := (HB.out.cell (World.block_lt_of_cell? w _ hx212_2)).trans hx212_2; have HR212_2 := Aside0.mk hi212_2; have HC212_2 := Aside0.mk hl212_2; clear hi212_2 hl212_2; replace p212 := eq_true p212; replace q212 := eq_true q212
                go_wp2_with (first | ((with_reducible refine q15 (f := 18) rfl ?_); refine goesL_ (some 21) rfl rfl Try.func18 (by kernel_rfl) rfl #[.slice A212_2 ((rd_T42 l0 x6_1).f2).length c212_2] rfl (by (try simp only [List.map_toArray, List.map_cons, List.map_nil]); first | done | rfl | (simp only [List.length_drop, List.length_take]; rfl)) ?_; (with_reducible refine (ih k1 (by have := HK1.out; omega) _ _ ((rd_T42 l0 x6_1).f2) t213 t214 _ ?side1 ?side2 A4.out).mono ?_); (case side1 => repeat (first | exact (Kd.C_below HR212_2.out HB.out) | (with_reducible refine Kd.C_alloc ?_ _) | (with_reducible refine Kd.C_drewN ?_ _) | (with_reducible refine Kd.C_drew ?_))); (case side2 => exact HC212_2.out); rintro e w15 ⟨rfl, hb⟩; refine ⟨_, rfl, ?_⟩; have n0_ := Aside0.mk (q14 (by repeat (first | (with_reducible first | exact HB.out | apply q11 | apply q9 | apply q10) | exact HB.out)) hb); clear HB; have HB := n0_; clear n0_; (try clear hb); (try clear hb2); (try clear hk); (try clear hi); have p215 : 0 ≤ (x6_1 : Int) := of_decide_eq_true (by first | (with_reducible assumption) | assumption); have q215 : x6_1 < (l0.length : Int) := of_decide_eq_true (by first | (with_reducible assumption) | assumption); obtain ⟨ad215, A215_2, c215_2, e215, hx215_0, hx215_1, hx215_2, hl215_2, hi215_2⟩ := at_T42 HR0.out x6_1 p215 q215; obtain rfl : ad212 = ad215 := (by injection e215); replace hx215_0 := (HB.out.cell (World.block_lt_of_cell? w _ hx215_0)).trans hx215_0; replace hx215_1 := (HB.out.cell (World.block_lt_of_cell? w _ hx215_1)).trans hx215_1; replace hx215_2 := (HB.out.cell (World.block_lt_of_cell? w _ hx215_2)).trans hx215_2; have HR215_2 := Aside0.mk hi215_2; have HC215_2 := Aside0.mk hl215_2; clear hi215_2 hl215_2; replace p215 := eq_true p215; replace q215 := eq_true q215; have p216 : 0 ≤ (x6_1 : Int) := of_decide_eq_true (by first | (with_reducible assumption) | assumption); have q216 : x6_1 < (l0.length : Int) := of_decide_eq_true (by first | (with_reducible assumption) | assumption); obtain ⟨ad216, A216_2, c216_2, e216, hx216_0, hx216_1, hx216_2, hl216_2, hi216_2⟩ := at_T42 HR0.out x6_1 p216 q216; obtain rfl : ad212 = ad216 := (by injection e216); replace hx216_0 := (HB.out.cell (World.block_lt_of_cell? w _ hx216_0)).trans hx216_0; replace hx216_1 := (HB.out.cell (World.block_lt_of_cell? w _ hx216_1)).trans hx216_1; replace hx216_2 := (HB.out.cell (World.block_lt_of_cell? w _ hx216_2)).trans hx216_2; have HR216_2 := Aside0.mk hi216_2; have HC216_2 := Aside0.mk hl216_2; clear hi216_2 hl216_2; replace p216 := eq_true p216; replace q216 := eq_true q216; have ea_ := Option.some.inj (hx215_2.symm.trans hx216_2); injection ea_ with ea_ en_ ec_; subst ea_; subst ec_; clear en_; have p217 : 0 ≤ (x6_1 : Int) := of_decide_eq_true (by first | (with_reducible assumption) | assumption); have q217 : x6_1 < (l0.length : Int) := of_decide_eq_true (by first | (with_reducible assumption) | assumption); obtain ⟨ad217, A217_2, c217_2, e217, hx217_0, hx217_1, hx217_2, hl217_2, hi217_2⟩ := at_T42 HR0.out x6_1 p217 q217; obtain rfl : ad212 = ad217 := (by injection e217); replace hx217_0 := (HB.out.cell (World.block_lt_of_cell? w _ hx217_0)).trans hx217_0; replace hx217_1 := (HB.out.cell (World.block_lt_of_cell? w _ hx217_1)).trans hx217_1; replace hx217_2 := (HB.out.cell (World.block_lt_of_cell? w _ hx217_2)).trans hx217_2; have HR217_2 := Aside0.mk hi217_2; have HC217_2 := Aside0.mk hl217_2; clear hi217_2 hl217_2; replace p217 := eq_true p217; replace q217 := eq_true q217; have ea_ := Option.some.inj (hx215_2.symm.trans hx217_2); injection ea_ with ea_ en_ ec_; subst ea_; subst ec_; clear en_))
                go_roundg k1
                case measure => have := HK1.out; omega
                case rel => exact ⟨(wrap64 ((wrap64 (x4_1 + t213)) + 1)), (ji14), (wrap64 (x6_1 + 1)), (by first | rfl | (simp; done) | (simp [*]; done)), (by first | rfl | (simp; done) | (simp only [← hji14] <;> (first | rfl | simp)) | (simp [*]; done)), (by first | rfl | (simp; done) | (simp [*]; done)), H', ⟨by have := HK1.out; omega⟩, ⟨by repeat (first | (with_reducible first | exact HB.out | apply q11 | apply q9 | apply q10) | exact HB.out)⟩⟩
        · rw [if_neg c3] at H; exact absurd H (by simp)
      · rw [if_neg c2] at H; have c2b0 : decide (x6_1 < (l0.length : Int)) = false := decide_eq_false c2; clear c2; simp only [Option.some.injEq, Prod.mk.injEq] at H; obtain ⟨rfl, rfl⟩ := H
        go_wp2
        go_ret2
        exact ⟨by first | rfl | (simp [errW_none, errW_some] <;> rfl) | (simp [*, errW_none, errW_some] <;> rfl), by repeat (first | (with_reducible first | exact HB.out | apply q11 | apply q9 | apply q10) | exact HB.out)⟩
def term_Value.f (k : Nat) (l0 : List (S42)) : Option (Int) := (term_check.f k l0 4).bind fun t218 => (some t218)
set_option maxHeartbeats 8000000 in
set_option maxRecDepth 100000 in
theorem term_Value.calls (k : Nat) (A0 : Option Addr) (c0 : Nat) (l0 : List (S42)) (r : Int) (w : World) (hr0 : Kd.C k42 w A0 l0.length l0) (hc0 : l0.length ≤ c0) (h : term_Value.f k l0 = some r) :
    Calls Try.prog 19 #[.slice A0 l0.length c0] w fun e w' => e = .returned (.int .i64 r) ∧ Below w.heap.size w w' := by
  have HR0 := Aside0.mk hr0; have HC0 := Aside0.mk hc0; clear hr0 hc0; have HB := Aside0.mk (Below.refl w.heap.size w); have H : ((term_check.f k l0 4).bind fun t218 => (some t218)) = some r := h; clear h; replace H := Option.bind_eq_some_iff.mp H; obtain ⟨t218, A20, H⟩ := H; replace H : (some t218) = some r := H; have A2 := Aside0.mk A20; clear A20; obtain rfl := Option.some.inj H
  go_enter Try.func19, Try.ntmps19
  go_wp2_with (first | ((with_reducible refine q15 (f := 66) rfl ?_); refine goesL_ (some 4) rfl rfl Try.func66 (by kernel_rfl) rfl #[.slice A0 l0.length c0, .int .i64 4] rfl (by (try simp only [List.map_toArray, List.map_cons, List.map_nil]); first | done | rfl | (simp only [List.length_drop, List.length_take]; rfl)) ?_; (with_reducible refine (term_check.calls k _ _ l0 4 t218 _ ?side1 ?side2 A2.out).mono ?_); (case side1 => repeat (first | exact HR0.out | (with_reducible refine Kd.C_alloc ?_ _) | (with_reducible refine Kd.C_drewN ?_ _) | (with_reducible refine Kd.C_drew ?_))); (case side2 => exact HC0.out); rintro e w3 ⟨rfl, hb⟩; refine ⟨_, rfl, ?_⟩; have n0_ := Aside0.mk (q14 (by repeat (first | (with_reducible first | exact HB.out | apply q11 | apply q9 | apply q10) | exact HB.out)) hb); clear HB; have HB := n0_; clear n0_; (try clear hb); (try clear hb2); (try clear hk); (try clear hi)))
  go_ret; exact ⟨by first | rfl | (simp [errW_none, errW_some] <;> rfl) | (simp [*, errW_none, errW_some] <;> rfl), by repeat (first | (with_reducible first | exact HB.out | apply q11 | apply q9 | apply q10) | exact HB.out)⟩
def term_Pattern.f (k : Nat) (l0 : List (S42)) : Option (Int) := (term_check.f k l0 7).bind fun t219 => (some t219)
set_option maxHeartbeats 8000000 in
set_option maxRecDepth 100000 in
theorem term_Pattern.calls (k : Nat) (A0 : Option Addr) (c0 : Nat) (l0 : List (S42)) (r : Int) (w : World) (hr0 : Kd.C k42 w A0 l0.length l0) (hc0 : l0.length ≤ c0) (h : term_Pattern.f k l0 = some r) :
    Calls Try.prog 20 #[.slice A0 l0.length c0] w fun e w' => e = .returned (.int .i64 r) ∧ Below w.heap.size w w' := by
  have HR0 := Aside0.mk hr0; have HC0 := Aside0.mk hc0; clear hr0 hc0; have HB := Aside0.mk (Below.refl w.heap.size w); have H : ((term_check.f k l0 7).bind fun t219 => (some t219)) = some r := h; clear h; replace H := Option.bind_eq_some_iff.mp H; obtain ⟨t219, A20, H⟩ := H; replace H : (some t219) = some r := H; have A2 := Aside0.mk A20; clear A20; obtain rfl := Option.some.inj H
  go_enter Try.func20, Try.ntmps20
  go_wp2_with (first | ((with_reducible refine q15 (f := 66) rfl ?_); refine goesL_ (some 4) rfl rfl Try.func66 (by kernel_rfl) rfl #[.slice A0 l0.length c0, .int .i64 7] rfl (by (try simp only [List.map_toArray, List.map_cons, List.map_nil]); first | done | rfl | (simp only [List.length_drop, List.length_take]; rfl)) ?_; (with_reducible refine (term_check.calls k _ _ l0 7 t219 _ ?side1 ?side2 A2.out).mono ?_); (case side1 => repeat (first | exact HR0.out | (with_reducible refine Kd.C_alloc ?_ _) | (with_reducible refine Kd.C_drewN ?_ _) | (with_reducible refine Kd.C_drew ?_))); (case side2 => exact HC0.out); rintro e w3 ⟨rfl, hb⟩; refine ⟨_, rfl, ?_⟩; have n0_ := Aside0.mk (q14 (by repeat (first | (with_reducible first | exact HB.out | apply q11 | apply q9 | apply q10) | exact HB.out)) hb); clear HB; have HB := n0_; clear n0_; (try clear hb); (try clear hb2); (try clear hk); (try clear hi)))
  go_ret; exact ⟨by first | rfl | (simp [errW_none, errW_some] <;> rfl) | (simp [*, errW_none, errW_some] <;> rfl), by repeat (first | (with_reducible first | exact HB.out | apply q11 | apply q9 | apply q10) | exact HB.out)⟩
def chiasmusref01_Letter.f (a0 : Int) : Option (Bool) := if a0 ≥ 97 then (if a0 ≤ 122 then (some true) else (if a0 ≥ 65 then (some (decide (a0 ≤ 90))) else (some false))) else (if a0 ≥ 65 then (some (decide (a0 ≤ 90))) else (some false))
set_option maxHeartbeats 8000000 in
set_option maxRecDepth 100000 in
theorem chiasmusref01_Letter.calls (a0 : Int) (r : Bool) (w : World) (h : chiasmusref01_Letter.f a0 = some r) :
    Calls Try.prog 112 #[.int .u8 a0] w fun e w' => e = .returned (.bool r) ∧ Drawn0 w w' := by
  have H : (if a0 ≥ 97 then (if a0 ≤ 122 then (some true) else (if a0 ≥ 65 then (some (decide (a0 ≤ 90))) else (some false))) else (if a0 ≥ 65 then (some (decide (a0 ≤ 90))) else (some false))) = some r := h; clear h
  by_cases c2 : a0 ≥ 97
  · rw [if_pos c2] at H; have c2b0 : decide (97 ≤ a0) = true := decide_eq_true c2; clear c2
    by_cases c3 : a0 ≤ 122
    · rw [if_pos c3] at H; have c3b0 : decide (a0 ≤ 122) = true := decide_eq_true c3; clear c3; obtain rfl := Option.some.inj H
      go_enter Try.func112, Try.ntmps112
      go_wp2
      go_ret; exact ⟨by first | rfl | (simp; done) | (simp [*]; done), by repeat (first | exact Drawn0.refl _ | apply Drawn0.step)⟩
    · rw [if_neg c3] at H; have c3b0 : decide (a0 ≤ 122) = false := decide_eq_false c3; clear c3
      by_cases c4 : a0 ≥ 65
      · rw [if_pos c4] at H; have c4b0 : decide (65 ≤ a0) = true := decide_eq_true c4; clear c4; obtain rfl := Option.some.inj H
        go_enter Try.func112, Try.ntmps112
        go_wp2
        go_ret; exact ⟨by first | rfl | (simp; done) | (simp [*]; done), by repeat (first | exact Drawn0.refl _ | apply Drawn0.step)⟩
      · rw [if_neg c4] at H; have c4b0 : decide (65 ≤ a0) = false := decide_eq_false c4; clear c4; obtain rfl := Option.some.inj H
        go_enter Try.func112, Try.ntmps112
        go_wp2
        go_ret; exact ⟨by first | rfl | (simp; done) | (simp [*]; done), by repeat (first | exact Drawn0.refl _ | apply Drawn0.step)⟩
  · rw [if_neg c2] at H; have c2b0 : decide (97 ≤ a0) = false := decide_eq_false c2; clear c2
    by_cases c5 : a0 ≥ 65
    · rw [if_pos c5] at H; have c5b0 : decide (65 ≤ a0) = true := decide_eq_true c5; clear c5; obtain rfl := Option.some.inj H
      go_enter Try.func112, Try.ntmps112
      go_wp2
      go_ret; exact ⟨by first | rfl | (simp; done) | (simp [*]; done), by repeat (first | exact Drawn0.refl _ | apply Drawn0.step)⟩
    · rw [if_neg c5] at H; have c5b0 : decide (65 ≤ a0) = false := decide_eq_false c5; clear c5; obtain rfl := Option.some.inj H
      go_enter Try.func112, Try.ntmps112
      go_wp2
      go_ret; exact ⟨by first | rfl | (simp; done) | (simp [*]; done), by repeat (first | exact Drawn0.refl _ | apply Drawn0.step)⟩
def chiasmusref01_Digit.f (a0 : Int) : Option (Bool) := if a0 ≥ 48 then (some (decide (a0 ≤ 57))) else (some false)
set_option maxHeartbeats 8000000 in
set_option maxRecDepth 100000 in
theorem chiasmusref01_Digit.calls (a0 : Int) (r : Bool) (w : World) (h : chiasmusref01_Digit.f a0 = some r) :
    Calls Try.prog 113 #[.int .u8 a0] w fun e w' => e = .returned (.bool r) ∧ Drawn0 w w' := by
  have H : (if a0 ≥ 48 then (some (decide (a0 ≤ 57))) else (some false)) = some r := h; clear h
  by_cases c2 : a0 ≥ 48
  · rw [if_pos c2] at H; have c2b0 : decide (48 ≤ a0) = true := decide_eq_true c2; clear c2; obtain rfl := Option.some.inj H
    go_enter Try.func113, Try.ntmps113
    go_wp2
    go_ret; exact ⟨by first | rfl | (simp; done) | (simp [*]; done), by repeat (first | exact Drawn0.refl _ | apply Drawn0.step)⟩
  · rw [if_neg c2] at H; have c2b0 : decide (48 ≤ a0) = false := decide_eq_false c2; clear c2; obtain rfl := Option.some.inj H
    go_enter Try.func113, Try.ntmps113
    go_wp2
    go_ret; exact ⟨by first | rfl | (simp; done) | (simp [*]; done), by repeat (first | exact Drawn0.refl _ | apply Drawn0.step)⟩
def chiasmusref01_IsVar.l0 : Nat → ByteArray → Int → Option (Bool)
  | 0, _, _ => none
  | k + 1, x0, x3 => if x3 < (x0.size : Int) then (if 0 ≤ x3 then ((chiasmusref01_Letter.f (bt x0 x3)).bind fun t220 => (if t220 = true then (chiasmusref01_IsVar.l0 k x0 (wrap64 (x3 + 1))) else ((chiasmusref01_Digit.f (bt x0 x3)).bind fun t221 => (if t221 = true then (chiasmusref01_IsVar.l0 k x0 (wrap64 (x3 + 1))) else (some false))))) else (none)) else (if x0.toList = ([] : List UInt8) then (some false) else (some (decide ((x0.size : Int) ≤ 40))))
def chiasmusref01_IsVar.f (k : Nat) (a0 : ByteArray) : Option (Bool) := chiasmusref01_IsVar.l0 k a0 0
set_option maxHeartbeats 8000000 in
set_option maxRecDepth 100000 in
theorem chiasmusref01_IsVar.calls (k : Nat) (a0 : ByteArray) (r : Bool) (w : World) (h : chiasmusref01_IsVar.f k a0 = some r) :
    Calls Try.prog 79 #[.string a0] w fun e w' => e = .returned (.bool r) ∧ Drawn0 w w' := by
  have H : (chiasmusref01_IsVar.l0 k a0 0) = some r := h; clear h; have H' := Aside0.mk H; clear H
  go_enter Try.func79, Try.ntmps79
  go_wp2
  go_loopg [3] k (fun kq v3 w' => ∃ (x3_1 : Int), v3 = .int .i64 x3_1 ∧ Aside0 (chiasmusref01_IsVar.l0 kq a0 x3_1 = some r) ∧ Aside0 (kq ≤ k) ∧ Drawn0 w w')
  case atStart => exact ⟨(0), (by first | rfl | (simp; done) | (simp [*]; done)), H', ⟨Nat.le_refl _⟩, by repeat (first | exact Drawn0.refl _ | apply Drawn0.step)⟩
  case round =>
    clear H'; obtain ⟨x3_1, rfl, HA, HK1, ⟨m1, rfl⟩⟩ := hrel
    cases gk with
    | zero => exact absurd HA.out (by simp [chiasmusref01_IsVar.l0])
    | succ k1 =>
      have H := HA.out; clear HA; simp only [chiasmusref01_IsVar.l0] at H
      by_cases c2 : x3_1 < (a0.size : Int)
      · rw [if_pos c2] at H; have c2b0 : decide (x3_1 < (a0.size : Int)) = true := decide_eq_true c2; clear c2
        by_cases c3 : 0 ≤ x3_1
        · rw [if_pos c3] at H; have c3b0 : decide (0 ≤ x3_1) = true := decide_eq_true c3; clear c3; replace H := Option.bind_eq_some_iff.mp H; obtain ⟨t220, A50, H⟩ := H; replace H : (if t220 = true then (chiasmusref01_IsVar.l0 k1 a0 (wrap64 (x3_1 + 1))) else ((chiasmusref01_Digit.f (bt a0 x3_1)).bind fun t221 => (if t221 = true then (chiasmusref01_IsVar.l0 k1 a0 (wrap64 (x3_1 + 1))) else (some false)))) = some r := H; have A5 := Aside0.mk A50; clear A50
          by_cases c6 : t220 = true
          · subst c6
            have H1 : (chiasmusref01_IsVar.l0 k1 a0 (wrap64 (x3_1 + 1))) = some r := by rw [if_pos rfl] at H; exact H
            clear H; have H := H1; clear H1; have H' := Aside0.mk H; clear H; have p4 : 0 ≤ (x3_1 : Int) := of_decide_eq_true (by first | (with_reducible assumption) | assumption); have q4 : x3_1 < (a0.size : Int) := of_decide_eq_true (by first | (with_reducible assumption) | assumption); have hx4 := bt_at a0 x3_1; replace p4 := eq_true p4; replace q4 := eq_true q4
            go_wp2_with (first | ((with_reducible refine q15 (f := 112) rfl ?_); refine goesL_ (some 13) rfl rfl Try.func112 (by kernel_rfl) rfl #[.int .u8 (bt a0 x3_1)] rfl (by (try simp only [List.map_toArray, List.map_cons, List.map_nil]); first | done | rfl | (simp only [List.length_drop, List.length_take]; rfl)) ?_; (with_reducible refine (chiasmusref01_Letter.calls (bt a0 x3_1) true _ A5.out).mono ?_); rintro e w' ⟨rfl, ⟨nd, rfl⟩⟩; refine ⟨_, rfl, ?_⟩))
            go_roundg k1
            case measure => have := HK1.out; omega
            case rel => exact ⟨(wrap64 (x3_1 + 1)), (by first | rfl | (simp; done) | (simp [*]; done)), H', ⟨by have := HK1.out; omega⟩, by repeat (first | exact Drawn0.refl _ | apply Drawn0.step)⟩
          · replace c6 := Bool.eq_false_iff.mpr c6; subst c6
            have H1 : ((chiasmusref01_Digit.f (bt a0 x3_1)).bind fun t221 => (if t221 = true then (chiasmusref01_IsVar.l0 k1 a0 (wrap64 (x3_1 + 1))) else (some false))) = some r := by rw [if_neg (show ¬ (false = true) by decide)] at H; exact H
            clear H; have H := H1; clear H1; replace H := Option.bind_eq_some_iff.mp H; obtain ⟨t221, A80, H⟩ := H; replace H : (if t221 = true then (chiasmusref01_IsVar.l0 k1 a0 (wrap64 (x3_1 + 1))) else (some false)) = some r := H; have A8 := Aside0.mk A80; clear A80
            by_cases c9 : t221 = true
            · subst c9
              have H1 : (chiasmusref01_IsVar.l0 k1 a0 (wrap64 (x3_1 + 1))) = some r := by rw [if_pos rfl] at H; exact H
              clear H; have H := H1; clear H1; have H' := Aside0.mk H; clear H; have p4 : 0 ≤ (x3_1 : Int) := of_decide_eq_true (by first | (with_reducible assumption) | assumption); have q4 : x3_1 < (a0.size : Int) := of_decide_eq_true (by first | (with_reducible assumption) | assumption); have hx4 := bt_at a0 x3_1; replace p4 := eq_true p4; replace q4 := eq_true q4
              go_wp2_with (first | ((with_reducible refine q15 (f := 112) rfl ?_); refine goesL_ (some 13) rfl rfl Try.func112 (by kernel_rfl) rfl #[.int .u8 (bt a0 x3_1)] rfl (by (try simp only [List.map_toArray, List.map_cons, List.map_nil]); first | done | rfl | (simp only [List.length_drop, List.length_take]; rfl)) ?_; (with_reducible refine (chiasmusref01_Letter.calls (bt a0 x3_1) false _ A5.out).mono ?_); rintro e w' ⟨rfl, ⟨nd, rfl⟩⟩; refine ⟨_, rfl, ?_⟩; have p7 : 0 ≤ (x3_1 : Int) := of_decide_eq_true (by first | (with_reducible assumption) | assumption); have q7 : x3_1 < (a0.size : Int) := of_decide_eq_true (by first | (with_reducible assumption) | assumption); have hx7 := bt_at a0 x3_1; replace p7 := eq_true p7; replace q7 := eq_true q7) | (go_at_call 113; (with_reducible refine (chiasmusref01_Digit.calls (bt a0 x3_1) true _ A8.out).mono ?_); rintro e w' ⟨rfl, ⟨nd, rfl⟩⟩))
              go_roundg k1
              case measure => have := HK1.out; omega
              case rel => exact ⟨(wrap64 (x3_1 + 1)), (by first | rfl | (simp; done) | (simp [*]; done)), H', ⟨by have := HK1.out; omega⟩, by repeat (first | exact Drawn0.refl _ | apply Drawn0.step)⟩
            · replace c9 := Bool.eq_false_iff.mpr c9; subst c9
              have H1 : (some false) = some r := by rw [if_neg (show ¬ (false = true) by decide)] at H; exact H
              clear H; have H := H1; clear H1; obtain rfl := Option.some.inj H; have p4 : 0 ≤ (x3_1 : Int) := of_decide_eq_true (by first | (with_reducible assumption) | assumption); have q4 : x3_1 < (a0.size : Int) := of_decide_eq_true (by first | (with_reducible assumption) | assumption); have hx4 := bt_at a0 x3_1; replace p4 := eq_true p4; replace q4 := eq_true q4
              go_wp2_with (first | ((with_reducible refine q15 (f := 112) rfl ?_); refine goesL_ (some 13) rfl rfl Try.func112 (by kernel_rfl) rfl #[.int .u8 (bt a0 x3_1)] rfl (by (try simp only [List.map_toArray, List.map_cons, List.map_nil]); first | done | rfl | (simp only [List.length_drop, List.length_take]; rfl)) ?_; (with_reducible refine (chiasmusref01_Letter.calls (bt a0 x3_1) false _ A5.out).mono ?_); rintro e w' ⟨rfl, ⟨nd, rfl⟩⟩; refine ⟨_, rfl, ?_⟩; have p7 : 0 ≤ (x3_1 : Int) := of_decide_eq_true (by first | (with_reducible assumption) | assumption); have q7 : x3_1 < (a0.size : Int) := of_decide_eq_true (by first | (with_reducible assumption) | assumption); have hx7 := bt_at a0 x3_1; replace p7 := eq_true p7; replace q7 := eq_true q7) | (go_at_call 113; (with_reducible refine (chiasmusref01_Digit.calls (bt a0 x3_1) false _ A8.out).mono ?_); rintro e w' ⟨rfl, ⟨nd, rfl⟩⟩))
              go_ret; exact ⟨by first | rfl | (simp; done) | (simp [*]; done), by repeat (first | exact Drawn0.refl _ | apply Drawn0.step)⟩
        · rw [if_neg c3] at H; exact absurd H (by simp)
      · rw [if_neg c2] at H; have c2b0 : decide (x3_1 < (a0.size : Int)) = false := decide_eq_false c2; clear c2
        by_cases c10 : a0.toList = ([] : List UInt8)
        · rw [if_pos c10] at H; have c10b0 : (a0.toList == ([] : List UInt8)) = true := beq_iff_eq.mpr c10; have c10b1 : (a0.toList != ([] : List UInt8)) = false := bne_eq_false_iff_eq.mpr c10; clear c10; obtain rfl := Option.some.inj H
          go_wp2
          go_ret; exact ⟨by first | rfl | (simp; done) | (simp [*]; done), by repeat (first | exact Drawn0.refl _ | apply Drawn0.step)⟩
        · rw [if_neg c10] at H; have c10b0 : (a0.toList == ([] : List UInt8)) = false := beq_eq_false_iff_ne.mpr c10; have c10b1 : (a0.toList != ([] : List UInt8)) = true := bne_iff_ne.mpr c10; obtain rfl := Option.some.inj H
          go_wp2
          go_ret; exact ⟨by first | rfl | (simp; done) | (simp [*]; done), by repeat (first | exact Drawn0.refl _ | apply Drawn0.step)⟩
def chiasmusref01_Inner.f (a0 : Int) : Option (Bool) := (chiasmusref01_Letter.f a0).bind fun t222 => (if t222 = true then (some true) else ((chiasmusref01_Digit.f a0).bind fun t223 => (if t223 = true then (some true) else (if a0 = 45 then (some true) else (some (a0 == 95))))))
set_option maxHeartbeats 8000000 in
set_option maxRecDepth 100000 in
theorem chiasmusref01_Inner.calls (a0 : Int) (r : Bool) (w : World) (h : chiasmusref01_Inner.f a0 = some r) :
    Calls Try.prog 133 #[.int .u8 a0] w fun e w' => e = .returned (.bool r) ∧ Drawn0 w w' := by
  have H : ((chiasmusref01_Letter.f a0).bind fun t222 => (if t222 = true then (some true) else ((chiasmusref01_Digit.f a0).bind fun t223 => (if t223 = true then (some true) else (if a0 = 45 then (some true) else (some (a0 == 95))))))) = some r := h; clear h; replace H := Option.bind_eq_some_iff.mp H; obtain ⟨t222, A20, H⟩ := H; replace H : (if t222 = true then (some true) else ((chiasmusref01_Digit.f a0).bind fun t223 => (if t223 = true then (some true) else (if a0 = 45 then (some true) else (some (a0 == 95)))))) = some r := H; have A2 := Aside0.mk A20; clear A20
  by_cases c3 : t222 = true
  · subst c3
    have H1 : (some true) = some r := by rw [if_pos rfl] at H; exact H
    clear H; have H := H1; clear H1; obtain rfl := Option.some.inj H
    go_enter Try.func133, Try.ntmps133
    go_wp2_with (first | ((with_reducible refine q15 (f := 112) rfl ?_); refine goesL_ (some 4) rfl rfl Try.func112 (by kernel_rfl) rfl #[.int .u8 a0] rfl (by (try simp only [List.map_toArray, List.map_cons, List.map_nil]); first | done | rfl | (simp only [List.length_drop, List.length_take]; rfl)) ?_; (with_reducible refine (chiasmusref01_Letter.calls a0 true _ A2.out).mono ?_); rintro e w' ⟨rfl, ⟨nd, rfl⟩⟩; refine ⟨_, rfl, ?_⟩))
    go_ret; exact ⟨by first | rfl | (simp; done) | (simp [*]; done), by repeat (first | exact Drawn0.refl _ | apply Drawn0.step)⟩
  · replace c3 := Bool.eq_false_iff.mpr c3; subst c3
    have H1 : ((chiasmusref01_Digit.f a0).bind fun t223 => (if t223 = true then (some true) else (if a0 = 45 then (some true) else (some (a0 == 95))))) = some r := by rw [if_neg (show ¬ (false = true) by decide)] at H; exact H
    clear H; have H := H1; clear H1; replace H := Option.bind_eq_some_iff.mp H; obtain ⟨t223, A40, H⟩ := H; replace H : (if t223 = true then (some true) else (if a0 = 45 then (some true) else (some (a0 == 95)))) = some r := H; have A4 := Aside0.mk A40; clear A40
    by_cases c5 : t223 = true
    · subst c5
      have H1 : (some true) = some r := by rw [if_pos rfl] at H; exact H
      clear H; have H := H1; clear H1; obtain rfl := Option.some.inj H
      go_enter Try.func133, Try.ntmps133
      go_wp2_with (first | ((with_reducible refine q15 (f := 112) rfl ?_); refine goesL_ (some 4) rfl rfl Try.func112 (by kernel_rfl) rfl #[.int .u8 a0] rfl (by (try simp only [List.map_toArray, List.map_cons, List.map_nil]); first | done | rfl | (simp only [List.length_drop, List.length_take]; rfl)) ?_; (with_reducible refine (chiasmusref01_Letter.calls a0 false _ A2.out).mono ?_); rintro e w' ⟨rfl, ⟨nd, rfl⟩⟩; refine ⟨_, rfl, ?_⟩) | (go_at_call 113; (with_reducible refine (chiasmusref01_Digit.calls a0 true _ A4.out).mono ?_); rintro e w' ⟨rfl, ⟨nd, rfl⟩⟩))
      go_ret; exact ⟨by first | rfl | (simp; done) | (simp [*]; done), by repeat (first | exact Drawn0.refl _ | apply Drawn0.step)⟩
    · replace c5 := Bool.eq_false_iff.mpr c5; subst c5
      have H1 : (if a0 = 45 then (some true) else (some (a0 == 95))) = some r := by rw [if_neg (show ¬ (false = true) by decide)] at H; exact H
      clear H; have H := H1; clear H1
      by_cases c6 : a0 = 45
      · rw [if_pos c6] at H; have c6b0 : (a0 == 45) = true := beq_iff_eq.mpr c6; have c6b1 : (a0 != 45) = false := bne_eq_false_iff_eq.mpr c6; clear c6; obtain rfl := Option.some.inj H
        go_enter Try.func133, Try.ntmps133
        go_wp2_with (first | ((with_reducible refine q15 (f := 112) rfl ?_); refine goesL_ (some 4) rfl rfl Try.func112 (by kernel_rfl) rfl #[.int .u8 a0] rfl (by (try simp only [List.map_toArray, List.map_cons, List.map_nil]); first | done | rfl | (simp only [List.length_drop, List.length_take]; rfl)) ?_; (with_reducible refine (chiasmusref01_Letter.calls a0 false _ A2.out).mono ?_); rintro e w' ⟨rfl, ⟨nd, rfl⟩⟩; refine ⟨_, rfl, ?_⟩) | (go_at_call 113; (with_reducible refine (chiasmusref01_Digit.calls a0 false _ A4.out).mono ?_); rintro e w' ⟨rfl, ⟨nd, rfl⟩⟩))
        go_ret; exact ⟨by first | rfl | (simp; done) | (simp [*]; done), by repeat (first | exact Drawn0.refl _ | apply Drawn0.step)⟩
      · rw [if_neg c6] at H; have c6b0 : (a0 == 45) = false := beq_eq_false_iff_ne.mpr c6; have c6b1 : (a0 != 45) = true := bne_iff_ne.mpr c6; obtain rfl := Option.some.inj H
        go_enter Try.func133, Try.ntmps133
        go_wp2_with (first | ((with_reducible refine q15 (f := 112) rfl ?_); refine goesL_ (some 4) rfl rfl Try.func112 (by kernel_rfl) rfl #[.int .u8 a0] rfl (by (try simp only [List.map_toArray, List.map_cons, List.map_nil]); first | done | rfl | (simp only [List.length_drop, List.length_take]; rfl)) ?_; (with_reducible refine (chiasmusref01_Letter.calls a0 false _ A2.out).mono ?_); rintro e w' ⟨rfl, ⟨nd, rfl⟩⟩; refine ⟨_, rfl, ?_⟩) | (go_at_call 113; (with_reducible refine (chiasmusref01_Digit.calls a0 false _ A4.out).mono ?_); rintro e w' ⟨rfl, ⟨nd, rfl⟩⟩))
        go_ret; exact ⟨by first | rfl | (simp; done) | (simp [*]; done), by repeat (first | exact Drawn0.refl _ | apply Drawn0.step)⟩
end Go.Proofs.Ytdbjjaodkapikaa.TE
