/- Part of the walk: lemmas and printed functions that the claim uses (wip/tools/trim.py). -/
import Derived.Test.YtdbjjaodkapikaaGTEx0
import Derived.Test.YtdbjjaodkapikaaGTEx18
namespace Go.Proofs.Ytdbjjaodkapikaa.TE
open Go.RowKit Go.Proofs.YtdbjjaodkapikaaW.PrintWords Go.Proofs.YtdbjjaodkapikaaW.PrintLast Go.Proofs.YtdbjjaodkapikaaW.PrintMore
attribute [local go_sem] max2_int min2_int max_two min_two max_three min_three max_four min_four
set_option linter.unusedVariables false
set_option linter.unusedSimpArgs false
def term_Equal.f (k : Nat) (l0 : List (S42)) (l1 : List (S42)) : Option (Bool) := (term_Compare.f k l0 l1).bind fun t477 => (some (t477 == 0))
set_option maxHeartbeats 8000000 in
set_option maxRecDepth 100000 in
theorem term_Equal.calls (k : Nat) (A0 : Option Addr) (c0 : Nat) (l0 : List (S42)) (A1 : Option Addr) (c1 : Nat) (l1 : List (S42)) (r : Bool) (w : World) (hr0 : Kd.C k42 w A0 l0.length l0) (hc0 : l0.length ≤ c0) (hr1 : Kd.C k42 w A1 l1.length l1) (hc1 : l1.length ≤ c1) (h : term_Equal.f k l0 l1 = some r) :
    Calls Try.prog 25 #[.slice A0 l0.length c0, .slice A1 l1.length c1] w fun e w' => e = .returned (.bool r) ∧ Below w.heap.size w w' := by
  have HR0 := Aside0.mk hr0; have HC0 := Aside0.mk hc0; clear hr0 hc0; have HR1 := Aside0.mk hr1; have HC1 := Aside0.mk hc1; clear hr1 hc1; have HB := Aside0.mk (Below.refl w.heap.size w); have H : ((term_Compare.f k l0 l1).bind fun t477 => (some (t477 == 0))) = some r := h; clear h; replace H := Option.bind_eq_some_iff.mp H; obtain ⟨t477, A30, H⟩ := H; replace H : (some (t477 == 0)) = some r := H; have A3 := Aside0.mk A30; clear A30; obtain rfl := Option.some.inj H
  go_enter Try.func25, Try.ntmps25
  go_wp2_with (first | ((with_reducible refine q12 (f := 26) rfl ?_); refine goesL_ (some 7) rfl rfl Try.func26 (by kernel_rfl) rfl #[.slice A0 l0.length c0, .slice A1 l1.length c1] rfl (by (try simp only [List.map_toArray, List.map_cons, List.map_nil]); first | done | rfl | (simp only [List.length_drop, List.length_take]; rfl)) ?_; (with_reducible refine (term_Compare.calls k _ _ l0 _ _ l1 t477 _ ?side1 ?side2 ?side3 ?side4 A3.out).mono ?_); (case side1 => repeat (first | exact HR0.out | (with_reducible refine Kd.C_alloc ?_ _) | (with_reducible refine Kd.C_drewN ?_ _) | (with_reducible refine Kd.C_drew ?_))); (case side2 => exact HC0.out); (case side3 => repeat (first | exact HR1.out | (with_reducible refine Kd.C_alloc ?_ _) | (with_reducible refine Kd.C_drewN ?_ _) | (with_reducible refine Kd.C_drew ?_))); (case side4 => exact HC1.out); rintro e w4 ⟨rfl, hb⟩; refine ⟨_, rfl, ?_⟩; have n0_ := Aside0.mk (q10 (by repeat (first | (with_reducible first | exact HB.out | apply q7 | apply q3 | apply q5) | exact HB.out)) hb); clear HB; have HB := n0_; clear n0_; (try clear hb); (try clear hb2); (try clear hk); (try clear hi)))
  go_ret; exact ⟨by first | rfl | (simp [errW_none, errW_some] <;> rfl) | (simp [*, errW_none, errW_some] <;> rfl), by repeat (first | (with_reducible first | exact HB.out | apply q7 | apply q3 | apply q5) | exact HB.out)⟩
mutual
def chiasmuslaw01_twin.l0 : Nat → List (S42) → List (S42) → Int → Int → Option ((List (S42)))
  | 0, _, _, _, _ => none
  | k + 1, x3, x6, x7, x8 => if x8 < x7 then (if 0 ≤ x8 then (if x8 < (x6.length : Int) then ((chiasmuslaw01_twin.f k ((rd_T42 x6 x8).f2)).bind fun t480 => (if x3.length < 2932031007402 then (chiasmuslaw01_twin.l0 k (x3 ++ [(⟨(rd_T42 x6 x8).f0, (rd_T42 x6 x8).f1, t480⟩ : S42)]) x6 x7 (wrap64 (x8 + 1))) else (none))) else (none)) else (none)) else (some x3)
def chiasmuslaw01_twin.f : Nat → List (S42) → Option ((List (S42)))
  | 0, _ => none
  | k + 1, l0 => chiasmuslaw01_twin.l0 k ([] : List (S42)) l0 (l0.length : Int) 0
end
def chiasmuslaw01_twin.T5 : Bool × List (List Nat × List Nat) := (true, [([], []), ([], []), ([1], [1]), ([], []), ([3], [3]), ([], []), ([5], [5]), ([6], [6]), ([2, 4, 7], [2, 4, 7]), ([8], [8]), ([0, 9, 7], [0, 9]), ([10, 10, 0, 1, 2, 3, 4, 5, 6, 7, 8, 9, 10], [0, 10])])
def chiasmuslaw01_twin.B5 : List Nat := [0, 0, 2, 0, 8, 0, 32, 96, 254, 510, 1023, 2047]
theorem chiasmuslaw01_twin.tab5 : rtab .any (opsOf Try.f28 5) = chiasmuslaw01_twin.T5 := by kernel_rfl
theorem chiasmuslaw01_twin.bits5 : waitsOk chiasmuslaw01_twin.T5.2 chiasmuslaw01_twin.B5 = true := by kernel_rfl
set_option maxHeartbeats 8000000 in
set_option maxRecDepth 100000 in
theorem chiasmuslaw01_twin.calls (k : Nat) : ∀ (A0 : Option Addr) (c0 : Nat) (l0 : List (S42)) (r : List (S42)) (w : World) (hr0 : Kd.C k42 w A0 l0.length l0) (hc0 : l0.length ≤ c0) (h : chiasmuslaw01_twin.f k l0 = some r),
    Calls Try.prog 28 #[.slice A0 l0.length c0] w fun e w' => ∃ v0_ : Value, e = .returned (v0_) ∧ Kd.R k42 42 w' w.heap.size (fun _ => True) v0_ r ∧ Below w.heap.size w w' := by
  induction k using Nat.strongRecOn with
  | _ k ih =>
  intro A0 c0 l0 r w hr0 hc0 h
  cases k with
  | zero => exact absurd h (by simp [chiasmuslaw01_twin.f])
  | succ k =>
  simp only [chiasmuslaw01_twin.f] at h; have hu42 := Try.underlying42; have HR0 := Aside0.mk hr0; have HC0 := Aside0.mk hc0; clear hr0 hc0; have HB := Aside0.mk (Below.refl w.heap.size w); have H : (chiasmuslaw01_twin.l0 k ([] : List (S42)) l0 (l0.length : Int) 0) = some r := h; clear h; have H' := Aside0.mk H; clear H
  go_enter Try.func28, Try.ntmps28
  go_wp2
  go_loopg [3, 8] k (fun kq v3 v8 w' => ∃ (x3_1 : List (S42)) (x8_1 : Int), v8 = .int .i64 x8_1 ∧ Aside0 (chiasmuslaw01_twin.l0 kq x3_1 l0 (l0.length : Int) x8_1 = some r) ∧ Aside0 (kq ≤ k) ∧ Aside0 (Kd.R k42 42 w' w.heap.size (fun _ => True) v3 x3_1) ∧ Aside0 (Below w.heap.size w w'))
  case atStart => exact ⟨(([] : List (S42))), (0), (by first | rfl | (simp; done) | (simp [*]; done)), H', ⟨Nat.le_refl _⟩, ⟨by first | exact Kd.R_nil _ _ _ _ _ | exact Kd.N_nil _ _ _ _ _ | exact Kd.V_nil _ _ _ _ _ | exact Kd.Q_nil _ _ _ _ _ | exact Kd.S_nil _ _ _ _ _⟩, ⟨by repeat (first | (with_reducible first | exact HB.out | apply q7 | apply q3 | apply q5) | exact HB.out)⟩⟩
  case round =>
    clear H'; obtain ⟨x3_1, x8_1, rfl, HA, HK1, HO_3, HB⟩ := hrel
    cases gk with
    | zero => exact absurd HA.out (by simp [chiasmuslaw01_twin.l0])
    | succ k1 =>
      have H := HA.out; clear HA; simp only [chiasmuslaw01_twin.l0] at H
      by_cases c2 : x8_1 < (l0.length : Int)
      · rw [if_pos c2] at H; have c2b0 : decide (x8_1 < (l0.length : Int)) = true := decide_eq_true c2; clear c2
        by_cases c3 : 0 ≤ x8_1
        · rw [if_pos c3] at H; have c3b0 : decide (0 ≤ x8_1) = true := decide_eq_true c3; clear c3
          by_cases c4 : x8_1 < (l0.length : Int)
          · rw [if_pos c4] at H; have c4b0 : decide (x8_1 < (l0.length : Int)) = true := decide_eq_true c4; clear c4; replace H := Option.bind_eq_some_iff.mp H; obtain ⟨t480, A50, H⟩ := H; replace H : (if x3_1.length < 2932031007402 then (chiasmuslaw01_twin.l0 k1 (x3_1 ++ [(⟨(rd_T42 l0 x8_1).f0, (rd_T42 l0 x8_1).f1, t480⟩ : S42)]) l0 (l0.length : Int) (wrap64 (x8_1 + 1))) else (none)) = some r := H; have A5 := Aside0.mk A50; clear A50
            by_cases c6 : x3_1.length < 2932031007402
            · rw [if_pos c6] at H; have LMc6 := Aside0.mk c6; clear c6; obtain ⟨y483, hy483⟩ : ∃ y_ : List (S42), y_ = (x3_1 ++ [(⟨(rd_T42 l0 x8_1).f0, (rd_T42 l0 x8_1).f1, t480⟩ : S42)]) := ⟨_, rfl⟩
              replace H : (chiasmuslaw01_twin.l0 k1 y483 l0 (l0.length : Int) (wrap64 (x8_1 + 1))) = some r := by first | (rw [hy483]; with_reducible exact H) | (have H2_ := (Option.bind_some _ _).symm.trans H; rw [hy483]; with_reducible exact H2_) | (have H2_ := (Option.bind_some _ _).symm.trans H; with_reducible exact H2_) | with_reducible exact H | (rw [hy483]; exact H) | exact H
              have Ny483 := Aside0.mk hy483; clear hy483; have H' := Aside0.mk H; clear H; have p478 : 0 ≤ (x8_1 : Int) := of_decide_eq_true (by first | (with_reducible assumption) | assumption); have q478 : x8_1 < (l0.length : Int) := of_decide_eq_true (by first | (with_reducible assumption) | assumption); obtain ⟨ad478, A478_2, c478_2, e478, hx478_0, hx478_1, hx478_2, hl478_2, hi478_2⟩ := at_T42 HR0.out x8_1 p478 q478; cases e478; replace hx478_0 := (HB.out.cell (World.block_lt_of_cell? w _ hx478_0)).trans hx478_0; replace hx478_1 := (HB.out.cell (World.block_lt_of_cell? w _ hx478_1)).trans hx478_1; replace hx478_2 := (HB.out.cell (World.block_lt_of_cell? w _ hx478_2)).trans hx478_2; have HR478_2 := Aside0.mk hi478_2; have HC478_2 := Aside0.mk hl478_2; clear hi478_2 hl478_2; replace p478 := eq_true p478; replace q478 := eq_true q478
              try go_wp2_with (first | ((with_reducible refine q19 (N := 5) rfl ?_); refine q16 ?hg (N := 5) ?hd (cs := #[.int .i64 0, .string (⟨#[]⟩ : ByteArray), .slice none 0 0]) (t := 42) ?hr ?_; (case hd => rfl); (case hg => rfl); (case hr => first | (go_simp; done) | (go_simp; rfl)); intro gb479 hg w7 hbox hb; have n0_ := Aside0.mk (Kd.R_below (Kd.R_elderB (by (with_reducible repeat (first | apply Kd.R_alloc | apply Kd.R_drewN | apply Kd.R_drew)); exact HO_3.out) gb479 (Nat.le_of_eq hg.symm)) hb); have n1_ := Aside0.mk (q10 (by repeat (first | (with_reducible first | exact HB.out | apply q7 | apply q3 | apply q5) | exact HB.out)) hb); have n2_ := Aside0.mk (hbox); have n3_ := Aside0.mk ((by rw [hg]; exact (q11 (by repeat (first | (with_reducible first | exact HB.out | apply q7 | apply q3 | apply q5) | exact HB.out))) : w.heap.size ≤ gb479)); have n4_ := Aside0.mk ((by rw [hg]; exact (q11 (by repeat (first | (with_reducible first | exact HB.out | apply q7 | apply q3 | apply q5) | exact HB.out))) : w.heap.size ≤ gb479)); clear HO_3; clear HB; have HO_3 := n0_; have HB := n1_; have BK479 := n2_; have GW479 := n3_; have GE479 := n4_; clear n0_ n1_ n2_ n3_ n4_; clear hb hbox hg; have hcz8_0 : w7.cell? ⟨gb479, 0, none⟩ = some (.int .i64 0) := (q4 BK479.out 0).trans rfl; have hcz8_1 : w7.cell? ⟨gb479, 1, none⟩ = some (.string (⟨#[]⟩ : ByteArray)) := (q4 BK479.out 1).trans rfl; have hcz8_2 : w7.cell? ⟨gb479, 2, none⟩ = some (.slice none 0 0) := (q4 BK479.out 2).trans rfl; have hfz8_0 := q9 BK479.out 0; have hfz8_1 := q9 BK479.out 1; have hfz8_2 := q9 BK479.out 2))
              have n0_ : Aside0 (Kd.R k42 42 (((w7.setCell ⟨gb479, 0, none⟩ (.int .i64 ((rd_T42 l0 x8_1).f0))).setCell ⟨gb479, 1, none⟩ (.string ((rd_T42 l0 x8_1).f1))).setCell ⟨gb479, 2, none⟩ (.slice A478_2 ((rd_T42 l0 x8_1).f2).length c478_2)) w.heap.size (fun k_ => k_ ≠ gb479) u3 x3_1) := ⟨by (with_reducible repeat (first | apply Kd.R_alloc | apply Kd.R_drewN | apply Kd.R_drew)); exact Kd.R_mono (Kd.R_far (p := ⟨gb479, 2, none⟩) (Kd.R_far (p := ⟨gb479, 1, none⟩) (Kd.R_far (p := ⟨gb479, 0, none⟩) (Kd.R_mono HO_3.out (fun k_ hk => (⟨hk, hk.2⟩ : _ ∧ k_ ≠ gb479))) (fun _ hk => hk.2) (.int .i64 ((rd_T42 l0 x8_1).f0))) (fun _ hk => hk.2) (.string ((rd_T42 l0 x8_1).f1))) (fun _ hk => hk.2) (.slice A478_2 ((rd_T42 l0 x8_1).f2).length c478_2)) (fun _ hk => hk.1.2)⟩; have n1_ : Aside0 ((((w7.setCell ⟨gb479, 0, none⟩ (.int .i64 ((rd_T42 l0 x8_1).f0))).setCell ⟨gb479, 1, none⟩ (.string ((rd_T42 l0 x8_1).f1))).setCell ⟨gb479, 2, none⟩ (.slice A478_2 ((rd_T42 l0 x8_1).f2).length c478_2)).heap[gb479]? = some (.cells #[.int .i64 ((rd_T42 l0 x8_1).f0), .string ((rd_T42 l0 x8_1).f1), .slice A478_2 ((rd_T42 l0 x8_1).f2).length c478_2] 42 (0, 0))) := ⟨by (with_reducible repeat (first | refine blk_drewN ?_ _ | refine blk_drew ?_ | refine q17 ?_ _)); refine blk_put (cs := #[.int .i64 ((rd_T42 l0 x8_1).f0), .string ((rd_T42 l0 x8_1).f1), .slice none 0 0]) ?_ 2 _ rfl; (with_reducible repeat (first | refine blk_drewN ?_ _ | refine blk_drew ?_ | refine q17 ?_ _)); refine blk_put (cs := #[.int .i64 ((rd_T42 l0 x8_1).f0), .string (⟨#[]⟩ : ByteArray), .slice none 0 0]) ?_ 1 _ rfl; (with_reducible repeat (first | refine blk_drewN ?_ _ | refine blk_drew ?_ | refine q17 ?_ _)); refine blk_put (cs := #[.int .i64 0, .string (⟨#[]⟩ : ByteArray), .slice none 0 0]) ?_ 0 _ rfl; (with_reducible repeat (first | refine blk_drewN ?_ _ | refine blk_drew ?_ | refine q17 ?_ _)); exact BK479.out⟩; have n2_ : Aside0 (Below w.heap.size w (((w7.setCell ⟨gb479, 0, none⟩ (.int .i64 ((rd_T42 l0 x8_1).f0))).setCell ⟨gb479, 1, none⟩ (.string ((rd_T42 l0 x8_1).f1))).setCell ⟨gb479, 2, none⟩ (.slice A478_2 ((rd_T42 l0 x8_1).f2).length c478_2))) := ⟨by repeat (first | (with_reducible first | exact HB.out | apply q7 | apply q3 | apply q5 | refine q14 ?_ GE479.out) | exact HB.out)⟩; (try clear HO_3); (try clear BK479); (try clear HB)
              generalize (((w7.setCell ⟨gb479, 0, none⟩ (.int .i64 ((rd_T42 l0 x8_1).f0))).setCell ⟨gb479, 1, none⟩ (.string ((rd_T42 l0 x8_1).f1))).setCell ⟨gb479, 2, none⟩ (.slice A478_2 ((rd_T42 l0 x8_1).f2).length c478_2)) = w9 at n0_ n1_ n2_ ⊢
              have HO_3 := n0_; have BK479 := n1_; have HB := n2_; clear n0_ n1_ n2_; have n0_ := Aside0.mk (Kd.R_drew HO_3.out); have n1_ := Aside0.mk (blk_drew BK479.out); have n2_ := Aside0.mk (q5 HB.out); clear HO_3; clear BK479; clear HB; have HO_3 := n0_; have BK479 := n1_; have HB := n2_; clear n0_ n1_ n2_; refine start_ (n := 12) (S := fun w' => w'.cell? ⟨gb479, 0, none⟩ = some (.int .i64 ((rd_T42 l0 x8_1).f0)) ∧ w'.cell? ⟨gb479, 1, none⟩ = some (.string ((rd_T42 l0 x8_1).f1)) ∧ w'.cell? ⟨gb479, 2, none⟩ = some (.slice A478_2 ((rd_T42 l0 x8_1).f2).length c478_2)) (ds := []) #[false, false, false, false, false, false, false, false, false, false, false, false] (by kernel_rfl) rfl rfl ⟨(q4 BK479.out 0).trans rfl, (q4 BK479.out 1).trans rfl, (q4 BK479.out 2).trans rfl⟩ (fun hHeld => ?_); refine q18 chiasmuslaw01_twin.tab5 chiasmuslaw01_twin.bits5 (fun HT_ HW_ => ?_)
              generalize w9.drew = w10 at HO_3 BK479 HB hHeld ⊢
              refine pure_ (i := 0) (N := some 12) (v := ?_) (a' := ?_) #[true, false, false, false, false, false, false, false, false, false, false, false] rfl rfl (any_of HT_.out (by kernel_rfl)) (fun _ _ _ h => h) (Or.inl ⟨by rfl, ?_⟩) ?_ ?_; rotate_left
              · intro w'; go_simp; with_reducible rfl
              rotate_left
              · simp only [Act.put, List.setIfInBounds_toArray, List.set_cons_zero, List.set_cons_succ, i64_w, i32_w]; rfl
              refine pure_ (i := 1) (N := some 13) (v := ?_) (a' := ?_) #[true, true, false, false, false, false, false, false, false, false, false, false] rfl rfl (any_of HT_.out (by kernel_rfl)) (fun _ _ _ h => h) (Or.inl ⟨by rfl, ?_⟩) ?_ ?_; rotate_left
              · intro w'; go_simp; with_reducible rfl
              rotate_left
              · simp only [Act.put, List.setIfInBounds_toArray, List.set_cons_zero, List.set_cons_succ, i64_w, i32_w]; rfl
              refine pure_ (i := 3) (N := some 15) (v := ?_) (a' := ?_) #[true, true, false, true, false, false, false, false, false, false, false, false] rfl rfl (any_of HT_.out (by kernel_rfl)) (fun _ _ _ h => h) (Or.inl ⟨by rfl, ?_⟩) ?_ ?_; rotate_left
              · intro w'; go_simp; with_reducible rfl
              rotate_left
              · simp only [Act.put, List.setIfInBounds_toArray, List.set_cons_zero, List.set_cons_succ, i64_w, i32_w]; rfl
              refine pure_ (i := 5) (N := some 17) (v := ?_) (a' := ?_) #[true, true, false, true, false, true, false, false, false, false, false, false] rfl rfl (any_of HT_.out (by kernel_rfl)) (fun _ _ _ h => h) (Or.inl ⟨by rfl, ?_⟩) ?_ ?_; rotate_left
              · intro w'; go_simp; with_reducible rfl
              rotate_left
              · simp only [Act.put, List.setIfInBounds_toArray, List.set_cons_zero, List.set_cons_succ, i64_w, i32_w]; rfl
              refine take_ (i := 2) (N := some 14) (v := ?_) (a' := ?_) #[true, true, true, true, false, true, false, false, false, false, false, false] rfl rfl (q13 HT_.out HW_.out (by kernel_rfl)) (fun _ _ _ h => h) (Or.inl ⟨by rfl, ?_⟩) hHeld ?_ ?_; rotate_left
              · rintro w' ⟨s0, s1, s2⟩; go_simp; with_reducible rfl
              rotate_left
              · simp only [Act.put, List.setIfInBounds_toArray, List.set_cons_zero, List.set_cons_succ, i64_w, i32_w]; rfl
              refine take_ (i := 4) (N := some 16) (v := ?_) (a' := ?_) #[true, true, true, true, true, true, false, false, false, false, false, false] rfl rfl (q13 HT_.out HW_.out (by kernel_rfl)) (fun _ _ _ h => h) (Or.inl ⟨by rfl, ?_⟩) hHeld ?_ ?_; rotate_left
              · rintro w' ⟨s0, s1, s2⟩; go_simp; with_reducible rfl
              rotate_left
              · simp only [Act.put, List.setIfInBounds_toArray, List.set_cons_zero, List.set_cons_succ, i64_w, i32_w]; rfl
              refine take_ (i := 6) (N := some 18) (v := ?_) (a' := ?_) #[true, true, true, true, true, true, true, false, false, false, false, false] rfl rfl (q13 HT_.out HW_.out (by kernel_rfl)) (fun _ _ _ h => h) (Or.inl ⟨by rfl, ?_⟩) hHeld ?_ ?_; rotate_left
              · rintro w' ⟨s0, s1, s2⟩; go_simp; with_reducible rfl
              rotate_left
              · simp only [Act.put, List.setIfInBounds_toArray, List.set_cons_zero, List.set_cons_succ, i64_w, i32_w]; rfl
              refine one_ (i := 7) (N := some 19) #[true, true, true, true, true, true, true, true, false, false, false, false] rfl rfl (one_of HT_.out (by kernel_rfl)) (by decide) (fun K hK => ?_); refine goes_ Try.func28 (by kernel_rfl) rfl #[.slice A478_2 ((rd_T42 l0 x8_1).f2).length c478_2] (by rfl) rfl rfl (by (try simp only [List.map_toArray, List.map_cons, List.map_nil]); first | done | rfl | (simp only [List.length_drop, List.length_take]; rfl)) ?_; with_reducible refine (ih k1 (by have := HK1.out; omega) _ _ ((rd_T42 l0 x8_1).f2) t480 _ ?side1 ?side2 A5.out).mono ?_
              (case side1 => repeat (first | exact (Kd.C_below HR478_2.out HB.out) | (with_reducible refine Kd.C_alloc ?_ _) | (with_reducible refine Kd.C_drewN ?_ _) | (with_reducible refine Kd.C_drew ?_)))
              (case side2 => exact HC478_2.out)
              rintro e w11 ⟨v481, rfl, ho0, hb⟩; refine ⟨_, rfl, ?_⟩; have n0_ := Aside0.mk (Kd.R_elder' (by (with_reducible repeat (first | apply Kd.R_alloc | apply Kd.R_drewN | apply Kd.R_drew)); exact HO_3.out) (Kd.R_base ho0) hb); have n1_ := Aside0.mk (Kd.R_lower (Kd.R_newB (Kd.R_new' ho0 (Kd.R_lt (by (with_reducible repeat (first | apply Kd.R_alloc | apply Kd.R_drewN | apply Kd.R_drew)); exact HO_3.out))) (g := gb479) (o := .cells #[.int .i64 ((rd_T42 l0 x8_1).f0), .string ((rd_T42 l0 x8_1).f1), .slice A478_2 ((rd_T42 l0 x8_1).f2).length c478_2] 42 (0, 0)) (by (with_reducible repeat (first | refine blk_drewN ?_ _ | refine blk_drew ?_ | refine q17 ?_ _)); exact BK479.out)) (q11 (by repeat (first | (with_reducible first | exact HB.out | apply q7 | apply q3 | apply q5 | refine q14 ?_ GE479.out) | exact HB.out)))); have n2_ := Aside0.mk (blk_below (g := gb479) (o := .cells #[.int .i64 ((rd_T42 l0 x8_1).f0), .string ((rd_T42 l0 x8_1).f1), .slice A478_2 ((rd_T42 l0 x8_1).f2).length c478_2] 42 (0, 0)) (by (with_reducible repeat (first | refine blk_drewN ?_ _ | refine blk_drew ?_ | refine q17 ?_ _)); exact BK479.out) hb); have n3_ := Aside0.mk (q10 (by repeat (first | (with_reducible first | exact HB.out | apply q7 | apply q3 | apply q5 | refine q14 ?_ GE479.out) | exact HB.out)) hb); clear HO_3; clear BK479; clear HB; have HO_3 := n0_; have HO482 := n1_; have BK479 := n2_; have HB := n3_; clear n0_ n1_ n2_ n3_; (try clear hb); (try clear hb2); (try clear hk); (try clear hi); (try clear ho0); obtain ⟨Ao12, co12, eo12⟩ := Kd.R_slice HO482.out
              (first | subst eo12 | (injection eo12 with f1_ f2_ f3_; have f4_ := f1_.symm; have f5_ := f3_.symm; clear f1_ f2_ f3_; subst f4_; subst f5_))
              refine hK.out _ _ ⟨(q4 BK479.out 0).trans rfl, (q4 BK479.out 1).trans rfl, (q4 BK479.out 2).trans rfl⟩ (fun hHeld => ?_); clear hK K; refine norm_ (a' := ?_) ?_ ?_; rotate_left
              · show Act.put _ (some 19) _ = _; simp only [Act.put, List.setIfInBounds_toArray, List.set_cons_zero, List.set_cons_succ, i64_w, i32_w]; rfl
              refine pure_ (i := 8) (N := some 20) (v := ?_) (a' := ?_) #[true, true, true, true, true, true, true, true, true, false, false, false] rfl rfl (any_of HT_.out (by kernel_rfl)) (fun _ _ _ h => h) (Or.inl ⟨by rfl, ?_⟩) ?_ ?_; rotate_left
              · intro w'; go_simp; with_reducible rfl
              rotate_left
              · simp only [Act.put, List.setIfInBounds_toArray, List.set_cons_zero, List.set_cons_succ, i64_w, i32_w]; rfl
              refine one_ (i := 9) (N := some 21) #[true, true, true, true, true, true, true, true, true, true, false, false] rfl rfl (one_of HT_.out (by kernel_rfl)) (by decide) (fun K hK => ?_); refine value_ (w1 := ?_) (v := ?_) (by rfl) rfl ?_ ?_; rotate_left 2
              · go_simp
                constructor
                · rfl
                · rfl
              refine hK.out _ _ ⟨(q4 (q17 BK479.out _) 0).trans rfl, (q4 (q17 BK479.out _) 1).trans rfl, (q4 (q17 BK479.out _) 2).trans rfl⟩ (fun hHeld => ?_); clear hK K; refine norm_ (a' := ?_) ?_ ?_; rotate_left
              · show Act.put _ (some 21) _ = _; simp only [Act.put, List.setIfInBounds_toArray, List.set_cons_zero, List.set_cons_succ, i64_w, i32_w]; rfl
              refine one_ (i := 10) (N := some 22) #[true, true, true, true, true, true, true, true, true, true, true, false] rfl rfl (one_of HT_.out (by kernel_rfl)) (by decide) (fun K hK => ?_); refine Kd.R_append_step k42 (w0 := w) w.heap.size (by rfl) (.tmp 12) (.tmp 21) 22 42 (.agg #[(.int .i64 0), (.string ⟨#[]⟩), (.slice none 0 0)]) 48 rfl Try.underlying22 info42 rfl (by decide) (by omega) u3 x3_1 (⟨(rd_T42 l0 x8_1).f0, (rd_T42 l0 x8_1).f1, t480⟩ : S42) [.int .i64 ((rd_T42 l0 x8_1).f0), .string ((rd_T42 l0 x8_1).f1), .slice Ao12 t480.length co12] (fun k_ => k_ ≠ gb479) (fun k_ => ((fun k_ => k_ ≠ gb479)) k_ ∧ some k_ ≠ (u3 : Value).ownBlock) rfl rfl ?aP (fun _ hk => hk) ?aF ?aO ?aB ?aS ?aL ?_
              (case aP => exact k42_mkM _ _ _ (⟨(rd_T42 l0 x8_1).f0, (rd_T42 l0 x8_1).f1, t480⟩ : S42) (Kd.R_mono (HO482.out) (fun k_ hk => ⟨hk.2, hk.1.2⟩)))
              (case aB => exact (by repeat (first | (with_reducible first | exact HB.out | apply q7 | apply q3 | apply q5 | refine q14 ?_ GE479.out) | exact HB.out)))
              (case aF => exact (fun k_ hk => Kd.freshB (g := gb479) (o := .cells #[.int .i64 ((rd_T42 l0 x8_1).f0), .string ((rd_T42 l0 x8_1).f1), .slice A478_2 ((rd_T42 l0 x8_1).f2).length c478_2] 42 (0, 0)) (by (with_reducible repeat (first | refine blk_drewN ?_ _ | refine blk_drew ?_ | refine q17 ?_ _)); exact BK479.out) k_ hk))
              (case aO => exact (by (with_reducible repeat (first | apply Kd.R_alloc | apply Kd.R_drewN | apply Kd.R_drew)); exact Kd.R_mono HO_3.out (fun _ hk => hk.1)))
              (case aS => exact (q11 (by repeat (first | (with_reducible first | exact HB.out | apply q7 | apply q3 | apply q5 | refine q14 ?_ GE479.out) | exact HB.out))))
              (case aL => have := LMc6.out; omega)
              intro v484 w13 ho hb hg hat; rw [← Ny483.out] at ho; have n0_ := Aside0.mk (blk_grown (g := gb479) (o := .cells #[.int .i64 ((rd_T42 l0 x8_1).f0), .string ((rd_T42 l0 x8_1).f1), .slice A478_2 ((rd_T42 l0 x8_1).f2).length c478_2] 42 (0, 0)) (by (with_reducible repeat (first | refine blk_drewN ?_ _ | refine blk_drew ?_ | refine q17 ?_ _)); exact BK479.out) hg (Kd.R_away HO_3.out (fun _ hk => hk.1))); have n1_ := Aside0.mk (hb); have n2_ := Aside0.mk (ho); clear BK479; clear HB; clear HO_3; clear HO482; have BK479 := n0_; have HB := n1_; have HO485 := n2_; clear n0_ n1_ n2_; clear ho hb hg hat; refine hK.out _ _ ⟨(q4 BK479.out 0).trans rfl, (q4 BK479.out 1).trans rfl, (q4 BK479.out 2).trans rfl⟩ (fun hHeld => ?_); clear hK K; refine norm_ (a' := ?_) ?_ ?_; rotate_left
              · show Act.put _ (some 22) _ = _; simp only [Act.put, List.setIfInBounds_toArray, List.set_cons_zero, List.set_cons_succ, i64_w, i32_w]; rfl
              refine pure_ (i := 11) (N := some 3) (v := ?_) (a' := ?_) #[true, true, true, true, true, true, true, true, true, true, true, true] rfl rfl (any_of HT_.out (by kernel_rfl)) (fun _ _ _ h => h) (Or.inl ⟨by rfl, ?_⟩) ?_ ?_; rotate_left
              · intro w'; go_simp; with_reducible rfl
              rotate_left
              · simp only [Act.put, List.setIfInBounds_toArray, List.set_cons_zero, List.set_cons_succ, i64_w, i32_w]; rfl
              refine done_ (q20 HT_.out (by kernel_rfl)) ?_
              try go_wp2
              go_roundg k1
              case measure => have := HK1.out; omega
              case rel => exact ⟨(y483), (wrap64 (x8_1 + 1)), (by first | rfl | (simp; done) | (simp [*]; done)), H', ⟨by have := HK1.out; omega⟩, ⟨by (with_reducible repeat (first | apply Kd.R_alloc | apply Kd.R_drewN | apply Kd.R_drew)); exact Kd.R_mono HO485.out (fun _ hk => trivial)⟩, ⟨by repeat (first | (with_reducible first | exact HB.out | apply q7 | apply q3 | apply q5 | refine q14 ?_ GE479.out) | exact HB.out)⟩⟩
            · rw [if_neg c6] at H; exact absurd H (by simp)
          · rw [if_neg c4] at H; exact absurd H (by simp)
        · rw [if_neg c3] at H; exact absurd H (by simp)
      · rw [if_neg c2] at H; have c2b0 : decide (x8_1 < (l0.length : Int)) = false := decide_eq_false c2; clear c2; obtain rfl := Option.some.inj H
        go_wp2
        go_ret; exact ⟨_, by first | rfl | (simp [errW_none, errW_some] <;> rfl) | (simp [*, errW_none, errW_some] <;> rfl), by (with_reducible repeat (first | apply Kd.R_alloc | apply Kd.R_drewN | apply Kd.R_drew)); exact HO_3.out, by repeat (first | (with_reducible first | exact HB.out | apply q7 | apply q3 | apply q5) | exact HB.out)⟩
end Go.Proofs.Ytdbjjaodkapikaa.TE
