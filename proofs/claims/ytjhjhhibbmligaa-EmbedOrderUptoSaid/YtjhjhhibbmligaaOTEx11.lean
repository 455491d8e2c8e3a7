/- Part of the walk: lemmas and printed functions that the claim uses (wip/tools/trim.py). -/
import Derived.Test.YtjhjhhibbmligaaOTEx0
import Derived.Test.YtjhjhhibbmligaaOTEx1
import Derived.Test.YtjhjhhibbmligaaOTEx3
section
namespace Go.Proofs.Ytjhjhhibbmligaa.TE
open Go.RowKit Go.Proofs.YtjhjhhibbmligaaW.PrintWords Go.Proofs.YtjhjhhibbmligaaW.PrintLast Go.Proofs.YtjhjhhibbmligaaW.PrintMore
attribute [local go_sem] max2_int min2_int max_two min_two max_three min_three max_four min_four
set_option linter.unusedVariables false
set_option linter.unusedSimpArgs false
section
attribute [local go_sem] Oper.semAt_some
def term_Size.f (k : Nat) (l0 : List S42) : Option (Int × Int) := (term_depth.f k l0).map fun d => (wrap64 ((flat l0).length : Int), d)
set_option maxHeartbeats 4000000 in
theorem term_Size_1.calls (n : Nat) (B : Nat) (v : Int) (w : World) (hc : w.cell? ⟨B, 0, none⟩ = some (.int .i64 v)) (hf : w.frozen? ⟨B, 0, none⟩ = false) :
    CallsIn Fence.wide n Try.prog 107 #[.pointer (some ⟨B, 0, none⟩)] w fun e w' => e = .returned (.tuple #[]) ∧ w' = w.setCell ⟨B, 0, none⟩ (.int .i64 (wrap64 (v + 1))) := by
  refine callsIn_of_wp Try.func107 rfl trivial ?_ rfl; simp only [Try.ntmps107, List.size_toArray, List.length_cons, List.length_nil, Nat.reduceAdd, Nat.reduceSub, Array.replicate_succ, Array.replicate_zero, List.push_toArray, List.append_toArray, List.nil_append, List.cons_append]
  gi_wp2
  go_end0
  exact ⟨rfl, rfl⟩
set_option maxRecDepth 100000 in
set_option maxHeartbeats 4000000 in
theorem term_Size.calls (k : Nat) (A0 : Option Addr) (c0 : Nat) (l0 : List (S42)) (r1 : Int) (r2 : Int) (w : World) (hr0 : Kd.C k42 w A0 l0.length l0) (hc0 : l0.length ≤ c0) (h : term_Size.f k l0 = some (r1, r2)) :
    Calls Try.prog 35 #[.slice A0 l0.length c0] w fun e w' => e = .returned (.tuple #[.int .i64 r1, .int .i64 r2]) ∧ Below w.heap.size w w' := by
  obtain ⟨d, hd, he⟩ := Option.map_eq_some_iff.1 h; simp only [Prod.mk.injEq] at he; obtain ⟨rfl, rfl⟩ := he; have HD := Aside0.mk hd; clear hd h; refine calls_of_wp_marks Try.func35 rfl ?_; simp only [Try.ntmps35, List.size_toArray, List.length_cons, List.length_nil, Nat.reduceAdd, Nat.reduceSub, Array.replicate_succ, Array.replicate_zero, List.push_toArray, List.append_toArray, List.nil_append, List.cons_append]
  go_wp2_with (go_at_call 108; refine (callsIn_wide.1 (all_in 0 A0 l0.length c0 _)).mono ?_; rintro e w' ⟨rfl, rfl⟩)
  obtain ⟨Wl, hWl⟩ : ∃ Wl, ((w.alloc (.cells #[.int .i64 0] 3)).alloc (.cells #[.func (.func 107) #[] #[.pointer (some ⟨w.heap.size, 0, none⟩)]] 1)).alloc (.cells #[.slice A0 l0.length c0] 22) = Wl := ⟨_, rfl⟩
  have hbl : Below w.heap.size w Wl := by rw [← hWl]; exact (((Below.refl _ w).alloc (Nat.le_refl _) _).alloc (by simp) _).alloc (by simp; omega) _
  have hszl : Wl.heap.size = w.heap.size + 3 := by rw [← hWl]; simp
  have hn0 : Wl.heap[w.heap.size]? = some (.cells #[.int .i64 0] 3 (0, 0)) := by
    rw [← hWl]; exact (Below.heap_alloc _ _ _ (by simp; omega)).trans ((Below.heap_alloc _ _ _ (by simp)).trans (World.alloc_heap_new w _))
  have hc1 : Wl.heap[w.heap.size + 1]? = some (.cells #[.func (.func 107) #[] #[.pointer (some ⟨w.heap.size, 0, none⟩)]] 1 (0, 0)) := by
    rw [← hWl]; have := World.alloc_heap_new (w.alloc (.cells #[.int .i64 0] 3)) (.cells #[.func (.func 107) #[] #[.pointer (some ⟨w.heap.size, 0, none⟩)]] 1); rw [World.size_alloc] at this; exact (Below.heap_alloc _ _ _ (by simp)).trans this
  have hl2 : Wl.heap[w.heap.size + 2]? = some (.cells #[.slice A0 l0.length c0] 22 (0, 0)) := by
    rw [← hWl]; have := World.alloc_heap_new ((w.alloc (.cells #[.int .i64 0] 3)).alloc (.cells #[.func (.func 107) #[] #[.pointer (some ⟨w.heap.size, 0, none⟩)]] 1)) (.cells #[.slice A0 l0.length c0] 22); rw [World.size_alloc, World.size_alloc] at this; exact this
  rw [hWl]
  have hdd : ∀ k lp : Nat, ((Fence.wide.inRound lp).depth.isSome = true → 1 ≤ k) := fun k lp h => by simp [Fence.wide] at h
  refine range_all w hbl (w.heap.size + 2) A0 c0 l0 hr0 hc0 ((q4 hl2 0).trans rfl) rfl
    (fun pre W => (Below w.heap.size w W ∧ W.heap[w.heap.size]? = some (.cells #[.int .i64 (wrap64 (pre.length : Int))] 3 (0, 0))) ∧ W.heap[w.heap.size + 1]? = some (.cells #[.func (.func 107) #[] #[.pointer (some ⟨w.heap.size, 0, none⟩)]] 1 (0, 0)))
    (fun _ _ _ => False)
    (OwnFrom.and (OwnFrom.and (ownFrom_below (Nat.le_refl _) hbl.size) (ownFrom_blk _ _ _ _)) (ownFrom_blk _ _ _ _)) (fun _ _ _ _ _ hs _ _ => hs)
    ⟨⟨hbl, by rw [hn0]; simp [wrap64]⟩, hc1⟩
    (fun x => { tmps := #[.slice A0 l0.length c0, undef, .pointer (some ⟨w.heap.size, 0, none⟩), .int .i64 0, .pointer (some ⟨w.heap.size + 1, 0, none⟩), .func (.func 107) #[] #[.pointer (some ⟨w.heap.size, 0, none⟩)], .slice A0 l0.length c0, .func (.func 145) #[] #[.pointer (some ⟨w.heap.size + 2, 0, none⟩)], .agg #[.int .i64 x.x.f0, .string x.x.f1, .slice x.A x.x.f2.length x.c], undef, undef, undef, undef, undef], defers := [] }) ?assign ?body ?done ?stop
  case assign =>
    intro lp x W K hK
    gi_wp2
    exact hK
  case body =>
    rintro lp pre x W ⟨⟨hb, hn⟩, hc⟩ hlen; have hcn : W.cell? ⟨w.heap.size, 0, none⟩ = some (.int .i64 (wrap64 (pre.length : Int))) := (q4 hn 0).trans rfl; have hfn := q11 hn 0; have hcc : W.cell? ⟨w.heap.size + 1, 0, none⟩ = some (.func (.func 107) #[] #[.pointer (some ⟨w.heap.size, 0, none⟩)]) := (q4 hc 0).trans rfl; have HN := Aside0.mk hn; have HC := Aside0.mk hc; clear hn hc hn0 hc1 hl2 hWl
    gi_wp2_with (fail)
    refine ⟨trivial, (CallsIn.inRound lp (term_Size_1.calls _ _ _ W hcn hfn)).mono ?_⟩; rintro e w' ⟨rfl, rfl⟩; clear hcn hcc hfn
    gi_wp2
    refine ⟨KeepsOthers.setCell _ _ _, KeepC.setCell _ _ _ _ (Nat.le_refl _) (by omega), ⟨hb.setCell (p := ⟨w.heap.size, 0, none⟩) (Nat.le_refl _) _, ?_⟩, (Below.heap_setCell W ⟨w.heap.size, 0, none⟩ _ (w.heap.size + 1) (by simp)).trans HC.out⟩; have hs := setCell_blk (u := .int .i64 (wrap64 (wrap64 (pre.length : Int) + 1))) HN.out; rw [hs]; simp only [List.length_append, List.length_cons, List.length_nil]
    congr 5
    unfold wrap64
    omega
  case done =>
    rintro D ys W hD hys ⟨⟨hb, hn⟩, hc⟩ hk
    have hlen : ys.length = (flat l0).length := by have := congrArg List.length hys; simpa using this
    rw [hlen] at hn; have hCd : Kd.C k42 W.drew A0 l0.length l0 := Kd.C_below hr0 (below_drew hb); clear hc hn0 hc1 hl2 hWl hys hlen
    go_wp2_with (fail)
    refine start_ (n := 5) (S := fun w' => w'.cell? ⟨w.heap.size, 0, none⟩ = some (.int .i64 (wrap64 ((flat l0).length : Int))) ∧ w'.frozen? ⟨w.heap.size, 0, none⟩ = false) (ds := [3]) #[false, false, false, false, false] (by kernel_rfl) rfl rfl ⟨(q4 hn 0).trans rfl, q11 hn 0⟩ (fun hHeld => ?_); refine pure_ (i := 1) (N := some 12) (v := ?_) (a' := ?_) #[false, true, false, false, false] rfl rfl (by kernel_rfl) (fun _ _ _ h => h) (Or.inl ⟨by rfl, ?_⟩) ?_ ?_; rotate_left
    · intro w'; go_simp; with_reducible rfl
    rotate_left
    · simp only [Act.put, List.setIfInBounds_toArray, List.set_cons_zero, List.set_cons_succ, i64_w, i32_w]; rfl
    refine take_ (i := 0) (N := some 11) (v := ?_) (a' := ?_) #[true, true, false, false, false] rfl rfl (by kernel_rfl) (fun _ _ _ h => h) (Or.inl ⟨by rfl, ?_⟩) hHeld ?_ ?_; rotate_left
    · rintro w' ⟨s0, s1⟩; go_simp; with_reducible rfl
    rotate_left
    · simp only [Act.put, List.setIfInBounds_toArray, List.set_cons_zero, List.set_cons_succ, i64_w, i32_w]; rfl
    refine one_ (i := 2) (N := some 13) #[true, true, true, false, false] rfl rfl (by kernel_rfl) (by decide) (fun K hK => ?_); refine goes_ Try.func109 (by kernel_rfl) rfl #[.slice A0 l0.length c0] (by rfl) rfl rfl (by simp only [List.map_toArray, List.map_cons, List.map_nil]; rfl) ?_; with_reducible refine (term_depth.calls k A0 c0 l0 d _ hCd hc0 HD.out).mono ?_
    rintro e w3 ⟨rfl, hb3⟩; refine ⟨_, rfl, ?_⟩; have hn3 := q20 (w := W.drew) (g := w.heap.size) (o := .cells #[.int .i64 (wrap64 ((flat l0).length : Int))] 3 (0, 0)) hn hb3; refine hK.out _ _ ⟨(q4 hn3 0).trans rfl, q11 hn3 0⟩ (fun hHeld => ?_); clear hK K; refine norm_ (a' := ?_) ?_ ?_; rotate_left
    · show Act.put _ (some 13) _ = _; simp only [Act.put, List.setIfInBounds_toArray, List.set_cons_zero, List.set_cons_succ, i64_w, i32_w]; rfl
    refine last_ (i := 3) (N := none) #[true, true, true, true, false] rfl rfl (by kernel_rfl) (by decide) (fun K hK => ?_); refine skip_ (w1 := ?_) (by rfl) rfl ?_ ?_; rotate_left
    · go_simp; rfl
    refine hK.out _ _ ?_; clear hK K; refine pure_ (i := 4) (N := some 3) (v := ?_) (a' := ?_) #[true, true, true, true, true] rfl rfl (by kernel_rfl) (fun _ _ _ h => h) (Or.inl ⟨by rfl, ?_⟩) ?_ ?_; rotate_left
    · intro w'; go_simp; with_reducible rfl
    rotate_left
    · simp only [Act.put, List.setIfInBounds_toArray, List.set_cons_zero, List.set_cons_succ, i64_w, i32_w]; rfl
    refine done_ (by kernel_rfl) ?_
    go_wp2_with (fail)
    have hk3 : w3.heap[D]? = some (.deferred (some [])) := (hb3.block D (Array.getElem?_eq_some_iff.1 hk).1).trans hk; have hs3 := setCell_blk (u := .int .i64 (wrap64 ((flat l0).length : Int))) hn3
    have hne : w.heap.size ≠ D := by omega
    have hk4 : (w3.setCell ⟨w.heap.size, 0, none⟩ (.int .i64 (wrap64 ((flat l0).length : Int)))).heap[D]? = some (.deferred (some [])) := (Below.heap_setCell w3 ⟨w.heap.size, 0, none⟩ _ D (by simp; omega)).trans hk3; have hb4 : Below w.heap.size w ((w3.setCell ⟨w.heap.size, 0, none⟩ (.int .i64 (wrap64 ((flat l0).length : Int)))).putObj D (.deferred none)) :=
      (((below_drew hb).trans (hb3.mono (below_drew hb).size)).setCell (p := ⟨w.heap.size, 0, none⟩) (Nat.le_refl _) _).grown (grownBy_putObj' _ D _) (by have := (Array.getElem?_eq_some_iff.1 hk4).1; omega) (fun k e => by cases e; omega)
    have hc5 : ((w3.setCell ⟨w.heap.size, 0, none⟩ (.int .i64 (wrap64 ((flat l0).length : Int)))).putObj D (.deferred none)).cell? ⟨w.heap.size, 0, none⟩ = some (.int .i64 (wrap64 ((flat l0).length : Int))) :=
      (q4 ((World.putObj_heap_other hne).trans hs3) 0).trans rfl
    refine ⟨by simp, .inl ⟨_, _, rfl, run_takeDeferred hk4, ?_⟩⟩; refine ⟨.tuple #[.int .i64 (wrap64 ((flat l0).length : Int)), .int .i64 d], ?_, rfl, hb4⟩; simp [results, Try.results35, go_sem, hc5]
  case stop =>
    rintro D c pre W _ _ h _; exact h.elim
end
def term_IsVariable.f (a0_0 : Int) (a0_1 : ByteArray) (l0_2 : List (S42)) : Option (Bool) := if a0_0 ≥ 5 then (some (decide (a0_0 ≤ 7))) else (some false)
set_option maxHeartbeats 8000000 in
set_option maxRecDepth 100000 in
theorem term_IsVariable.calls (a0_0 : Int) (a0_1 : ByteArray) (A0_2 : Option Addr) (c0_2 : Nat) (l0_2 : List (S42)) (r : Bool) (w : World) (hr0_2 : Kd.C k42 w A0_2 l0_2.length l0_2) (hc0_2 : l0_2.length ≤ c0_2) (h : term_IsVariable.f a0_0 a0_1 l0_2 = some r) :
    Calls Try.prog 57 #[.agg #[.int .i64 a0_0, .string a0_1, .slice A0_2 l0_2.length c0_2]] w fun e w' => e = .returned (.bool r) ∧ Below w.heap.size w w' := by
  have hu42 := Try.underlying42; have HR0_2 := Aside0.mk hr0_2; have HC0_2 := Aside0.mk hc0_2; clear hr0_2 hc0_2; have HB := Aside0.mk (Below.refl w.heap.size w); have H : (if a0_0 ≥ 5 then (some (decide (a0_0 ≤ 7))) else (some false)) = some r := h; clear h
  by_cases c2 : a0_0 ≥ 5
  · rw [if_pos c2] at H; have c2b0 : decide (5 ≤ a0_0) = true := decide_eq_true c2; clear c2; obtain rfl := Option.some.inj H
    go_enter Try.func57, Try.ntmps57
    go_wp2_with (first | ((with_reducible refine q22 (N := 1) rfl ?_); refine q21 ?hg (N := 1) ?hd (cs := #[.int .i64 a0_0, .string a0_1, .slice A0_2 l0_2.length c0_2]) (t := 42) ?hr ?_; (case hd => rfl); (case hg => rfl); (case hr => first | (go_simp; done) | (go_simp; rfl)); intro gb344 hg w3 hbox hb; have n0_ := Aside0.mk (q12 (by repeat (first | (with_reducible first | exact HB.out | apply q9 | apply q7 | apply q10) | exact HB.out)) hb); have n1_ := Aside0.mk (hbox); have n2_ := Aside0.mk ((by rw [hg]; exact (q13 (by repeat (first | (with_reducible first | exact HB.out | apply q9 | apply q7 | apply q10) | exact HB.out))) : w.heap.size ≤ gb344)); have n3_ := Aside0.mk ((by rw [hg]; exact (q13 (by repeat (first | (with_reducible first | exact HB.out | apply q9 | apply q7 | apply q10) | exact HB.out))) : w.heap.size ≤ gb344)); clear HB; have HB := n0_; have BK344 := n1_; have GW344 := n2_; have GE344 := n3_; clear n0_ n1_ n2_ n3_; clear hb hbox hg; have hcz4_0 : w3.cell? ⟨gb344, 0, none⟩ = some (.int .i64 a0_0) := (q4 BK344.out 0).trans rfl; have hcz4_1 : w3.cell? ⟨gb344, 1, none⟩ = some (.string a0_1) := (q4 BK344.out 1).trans rfl; have hcz4_2 : w3.cell? ⟨gb344, 2, none⟩ = some (.slice A0_2 l0_2.length c0_2) := (q4 BK344.out 2).trans rfl; have hfz4_0 := q11 BK344.out 0; have hfz4_1 := q11 BK344.out 1; have hfz4_2 := q11 BK344.out 2))
    go_ret; exact ⟨by first | rfl | (simp [errW_none, errW_some] <;> rfl) | (simp [*, errW_none, errW_some] <;> rfl), by repeat (first | (with_reducible first | exact HB.out | apply q9 | apply q7 | apply q10 | refine q16 ?_ GE344.out) | exact HB.out)⟩
  · rw [if_neg c2] at H; have c2b0 : decide (5 ≤ a0_0) = false := decide_eq_false c2; clear c2; obtain rfl := Option.some.inj H
    go_enter Try.func57, Try.ntmps57
    go_wp2_with (first | ((with_reducible refine q22 (N := 1) rfl ?_); refine q21 ?hg (N := 1) ?hd (cs := #[.int .i64 a0_0, .string a0_1, .slice A0_2 l0_2.length c0_2]) (t := 42) ?hr ?_; (case hd => rfl); (case hg => rfl); (case hr => first | (go_simp; done) | (go_simp; rfl)); intro gb344 hg w5 hbox hb; have n0_ := Aside0.mk (q12 (by repeat (first | (with_reducible first | exact HB.out | apply q9 | apply q7 | apply q10) | exact HB.out)) hb); have n1_ := Aside0.mk (hbox); have n2_ := Aside0.mk ((by rw [hg]; exact (q13 (by repeat (first | (with_reducible first | exact HB.out | apply q9 | apply q7 | apply q10) | exact HB.out))) : w.heap.size ≤ gb344)); have n3_ := Aside0.mk ((by rw [hg]; exact (q13 (by repeat (first | (with_reducible first | exact HB.out | apply q9 | apply q7 | apply q10) | exact HB.out))) : w.heap.size ≤ gb344)); clear HB; have HB := n0_; have BK344 := n1_; have GW344 := n2_; have GE344 := n3_; clear n0_ n1_ n2_ n3_; clear hb hbox hg; have hcz6_0 : w5.cell? ⟨gb344, 0, none⟩ = some (.int .i64 a0_0) := (q4 BK344.out 0).trans rfl; have hcz6_1 : w5.cell? ⟨gb344, 1, none⟩ = some (.string a0_1) := (q4 BK344.out 1).trans rfl; have hcz6_2 : w5.cell? ⟨gb344, 2, none⟩ = some (.slice A0_2 l0_2.length c0_2) := (q4 BK344.out 2).trans rfl; have hfz6_0 := q11 BK344.out 0; have hfz6_1 := q11 BK344.out 1; have hfz6_2 := q11 BK344.out 2))
    go_ret; exact ⟨by first | rfl | (simp [errW_none, errW_some] <;> rfl) | (simp [*, errW_none, errW_some] <;> rfl), by repeat (first | (with_reducible first | exact HB.out | apply q9 | apply q7 | apply q10 | refine q16 ?_ GE344.out) | exact HB.out)⟩
end Go.Proofs.Ytjhjhhibbmligaa.TE
end
section
namespace Go.Proofs.Ytjhjhhibbmligaa.TE
open Go.RowKit Go.Proofs.YtjhjhhibbmligaaW.PrintWords Go.Proofs.YtjhjhhibbmligaaW.PrintLast Go.Proofs.YtjhjhhibbmligaaW.PrintMore
attribute [local go_sem] max2_int min2_int max_two min_two max_three min_three max_four min_four
set_option linter.unusedVariables false
set_option linter.unusedSimpArgs false
end Go.Proofs.Ytjhjhhibbmligaa.TE
end
section
namespace Go.Proofs.Ytjhjhhibbmligaa.TE
open Go.RowKit Go.Proofs.YtjhjhhibbmligaaW.PrintWords Go.Proofs.YtjhjhhibbmligaaW.PrintLast Go.Proofs.YtjhjhhibbmligaaW.PrintMore
attribute [local go_sem] max2_int min2_int max_two min_two max_three min_three max_four min_four
set_option linter.unusedVariables false
set_option linter.unusedSimpArgs false
end Go.Proofs.Ytjhjhhibbmligaa.TE
end
section
namespace Go.Proofs.Ytjhjhhibbmligaa.TE
open Go.RowKit Go.Proofs.YtjhjhhibbmligaaW.PrintWords Go.Proofs.YtjhjhhibbmligaaW.PrintLast Go.Proofs.YtjhjhhibbmligaaW.PrintMore
attribute [local go_sem] max2_int min2_int max_two min_two max_three min_three max_four min_four
set_option linter.unusedVariables false
set_option linter.unusedSimpArgs false
end Go.Proofs.Ytjhjhhibbmligaa.TE
end
