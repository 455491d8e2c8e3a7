/- Part of the walk: lemmas and printed functions that the claim uses (wip/tools/trim.py). -/
import Derived.Test.YtnffhiiihegjbaaFMDx0
import Derived.Test.YtnffhiiihegjbaaFMDx4
import Derived.Test.YtnffhiiihegjbaaFMDx8
import Derived.Test.YtnffhiiihegjbaaFMDx9
namespace Go.Proofs.Ytnffhiiihegjbaa.MD
open Go.RowKit Go.Proofs.YtnffhiiihegjbaaW.PrintWords Go.Proofs.YtnffhiiihegjbaaW.PrintLast Go.Proofs.YtnffhiiihegjbaaW.PrintMore
attribute [local go_sem] max2_int min2_int max_two min_two max_three min_three max_four min_four
set_option linter.unusedVariables false
set_option linter.unusedSimpArgs false
def meta_Dn.f (k : Nat) (l0 : List (S44)) : Option ((List (S44)) × Int) := (term_Value.f k l0).bind fun t250 => (if t250 = 0 then ((meta_dn.f k l0).bind fun bt251 => (if bt251.2 = true then ((term_Result.f k bt251.1).bind fun t255 => (if t255 = 0 then (some (bt251.1, 0)) else (some (([] : List (S44)), 110)))) else (some (([] : List (S44)), 110)))) else (some (([] : List (S44)), t250)))
set_option maxHeartbeats 8000000 in
set_option maxRecDepth 100000 in
theorem meta_Dn.calls (k : Nat) (P0_ : Nat → Prop) (A0 : Option Addr) (c0 : Nat) (l0 : List (S44)) (r1 : List (S44)) (r2 : Int) (w : World) (hs0 : Kd.V k44 44 w w.heap.size (fun k_ => P0_ k_) (.slice A0 l0.length c0) l0) (h : meta_Dn.f k l0 = some (r1, r2)) :
    Calls Try.prog 15 #[.slice A0 l0.length c0] w fun e w' => ∃ v0_ : Value, e = .returned (.tuple #[v0_, .int .i64 r2]) ∧ Kd.N k44 44 w' w.heap.size (fun k_ => (P0_ k_ ∨ w.heap.size ≤ k_)) v0_ r1 ∧ Below w.heap.size w w' := by
  have HO0 := Aside0.mk (show Kd.V k44 44 w w.heap.size (fun k_ => (P0_ k_ ∨ w.heap.size ≤ k_)) (.slice A0 l0.length c0) l0 from Kd.V_mono hs0 (fun k_ hk => .inl hk)); have HB := Aside0.mk (Below.refl w.heap.size w); have H : ((term_Value.f k l0).bind fun t250 => (if t250 = 0 then ((meta_dn.f k l0).bind fun bt251 => (if bt251.2 = true then ((term_Result.f k bt251.1).bind fun t255 => (if t255 = 0 then (some (bt251.1, 0)) else (some (([] : List (S44)), 110)))) else (some (([] : List (S44)), 110)))) else (some (([] : List (S44)), t250)))) = some (r1, r2) := h; clear h; replace H := Option.bind_eq_some_iff.mp H; obtain ⟨t250, A20, H⟩ := H; replace H : (if t250 = 0 then ((meta_dn.f k l0).bind fun bt251 => (if bt251.2 = true then ((term_Result.f k bt251.1).bind fun t255 => (if t255 = 0 then (some (bt251.1, 0)) else (some (([] : List (S44)), 110)))) else (some (([] : List (S44)), 110)))) else (some (([] : List (S44)), t250))) = some (r1, r2) := H; have A2 := Aside0.mk A20; clear A20
  by_cases c3 : t250 = 0
  · rw [if_pos c3] at H; have c3b0 : (t250 == 0) = true := beq_iff_eq.mpr c3; have c3b1 : (t250 != 0) = false := bne_eq_false_iff_eq.mpr c3; clear c3; replace H := Option.bind_eq_some_iff.mp H; obtain ⟨⟨t251, t254⟩, A40, H⟩ := H; replace H : (if t254 = true then ((term_Result.f k t251).bind fun t255 => (if t255 = 0 then (some (t251, 0)) else (some (([] : List (S44)), 110)))) else (some (([] : List (S44)), 110))) = some (r1, r2) := H; have A4 := Aside0.mk A40; clear A40
    by_cases c5 : t254 = true
    · subst c5
      have H1 : ((term_Result.f k t251).bind fun t255 => (if t255 = 0 then (some (t251, 0)) else (some (([] : List (S44)), 110)))) = some (r1, r2) := by rw [if_pos rfl] at H; exact H
      clear H; have H := H1; clear H1; replace H := Option.bind_eq_some_iff.mp H; obtain ⟨t255, A60, H⟩ := H; replace H : (if t255 = 0 then (some (t251, 0)) else (some (([] : List (S44)), 110))) = some (r1, r2) := H; have A6 := Aside0.mk A60; clear A60
      by_cases c7 : t255 = 0
      · rw [if_pos c7] at H; have c7b0 : (t255 == 0) = true := beq_iff_eq.mpr c7; have c7b1 : (t255 != 0) = false := bne_eq_false_iff_eq.mpr c7; clear c7; simp only [Option.some.injEq, Prod.mk.injEq] at H; obtain ⟨rfl, rfl⟩ := H
        go_enter Try.func15, Try.ntmps15
        go_wp2_with (first | ((with_reducible refine q14 (f := 17) rfl ?_); refine goesL_ (some 8) rfl rfl Try.func17 (by kernel_rfl) rfl #[.slice A0 l0.length c0] rfl (by (try simp only [List.map_toArray, List.map_cons, List.map_nil]); rfl) ?_; (with_reducible refine (term_Value.calls k _ _ l0 t250 _ ?side1 ?side2 A2.out).mono ?_); (case side1 => repeat (exact (Kd.V_reads' HO0.out).2.2)); (case side2 => exact (Kd.V_reads' HO0.out).2.1); rintro e w8 ⟨rfl, hb⟩; refine ⟨_, rfl, ?_⟩; have n0_ := Aside0.mk (Kd.V_below (by exact HO0.out) hb); have n1_ := Aside0.mk (q10 (by with_reducible exact HB.out) hb); clear HO0; clear HB; have HO0 := n0_; have HB := n1_; clear n0_ n1_; (try clear hb); (try clear hb2); (try clear hk); (try clear hi)) | ((with_reducible refine q14 (f := 36) rfl ?_); refine goesL_ (some 14) rfl rfl Try.func36 (by kernel_rfl) rfl #[.slice A0 l0.length c0] rfl (by (try simp only [List.map_toArray, List.map_cons, List.map_nil]); rfl) ?_; (with_reducible refine (meta_dn.calls k (fun k_ => (P0_ k_ ∨ w.heap.size ≤ k_)) _ _ l0 t251 true _ ?side1 A4.out).mono ?_); (case side1 => exact HO0.out); rintro e w9 ⟨v252, rfl, ho0, hb⟩; refine ⟨_, rfl, ?_⟩; have n0_ := Aside0.mk (Kd.V_elder' (by exact HO0.out) (by exact Kd.N_base ho0) hb); have n1_ := Aside0.mk (Kd.N_lower (Kd.N_mono (ok' := fun k_ => (P0_ k_ ∨ w.heap.size ≤ k_)) ho0 (fun k_ hk_ => Or.elim hk_ (fun hs_ => hs_) (fun hn_ => (.inr (Nat.le_trans (q3 (by with_reducible exact HB.out)) hn_))))) (q3 (by with_reducible exact HB.out))); have n2_ := Aside0.mk (q10 (by with_reducible exact HB.out) hb); clear HO0; clear HB; have HO0 := n0_; have HO253 := n1_; have HB := n2_; clear n0_ n1_ n2_; (try clear hb); (try clear hb2); (try clear hk); (try clear hi); (try clear ho0); obtain ⟨Ao10, co10, eo10⟩ := Kd.N_slice HO253.out; subst eo10) | (go_at_call 29; (with_reducible refine (term_Result.calls k _ _ t251 t255 _ ?side1 ?side2 A6.out).mono ?_); (case side1 => repeat (exact (Kd.N_reads' HO253.out).2.2)); (case side2 => exact (Kd.N_reads' HO253.out).2.1); rintro e w11 ⟨rfl, hb⟩; have n0_ := Aside0.mk (Kd.V_below (by exact HO0.out) hb); have n1_ := Aside0.mk (Kd.N_below (by exact HO253.out) hb); have n2_ := Aside0.mk (q10 (by with_reducible exact HB.out) hb); clear HO0; clear HO253; clear HB; have HO0 := n0_; have HO253 := n1_; have HB := n2_; clear n0_ n1_ n2_; (try clear hb); (try clear hb2); (try clear hk); (try clear hi)))
        go_ret2
        exact ⟨_, by rfl, by exact HO253.out, by with_reducible exact HB.out⟩
      · rw [if_neg c7] at H; have c7b0 : (t255 == 0) = false := beq_eq_false_iff_ne.mpr c7; have c7b1 : (t255 != 0) = true := bne_iff_ne.mpr c7; simp only [Option.some.injEq, Prod.mk.injEq] at H; obtain ⟨rfl, rfl⟩ := H
        go_enter Try.func15, Try.ntmps15
        go_wp2_with (first | ((with_reducible refine q14 (f := 17) rfl ?_); refine goesL_ (some 8) rfl rfl Try.func17 (by kernel_rfl) rfl #[.slice A0 l0.length c0] rfl (by (try simp only [List.map_toArray, List.map_cons, List.map_nil]); rfl) ?_; (with_reducible refine (term_Value.calls k _ _ l0 t250 _ ?side1 ?side2 A2.out).mono ?_); (case side1 => repeat (exact (Kd.V_reads' HO0.out).2.2)); (case side2 => exact (Kd.V_reads' HO0.out).2.1); rintro e w12 ⟨rfl, hb⟩; refine ⟨_, rfl, ?_⟩; have n0_ := Aside0.mk (Kd.V_below (by exact HO0.out) hb); have n1_ := Aside0.mk (q10 (by with_reducible exact HB.out) hb); clear HO0; clear HB; have HO0 := n0_; have HB := n1_; clear n0_ n1_; (try clear hb); (try clear hb2); (try clear hk); (try clear hi)) | ((with_reducible refine q14 (f := 36) rfl ?_); refine goesL_ (some 14) rfl rfl Try.func36 (by kernel_rfl) rfl #[.slice A0 l0.length c0] rfl (by (try simp only [List.map_toArray, List.map_cons, List.map_nil]); rfl) ?_; (with_reducible refine (meta_dn.calls k (fun k_ => (P0_ k_ ∨ w.heap.size ≤ k_)) _ _ l0 t251 true _ ?side1 A4.out).mono ?_); (case side1 => exact HO0.out); rintro e w13 ⟨v252, rfl, ho0, hb⟩; refine ⟨_, rfl, ?_⟩; have n0_ := Aside0.mk (Kd.V_elder' (by exact HO0.out) (by exact Kd.N_base ho0) hb); have n1_ := Aside0.mk (Kd.N_lower (Kd.N_mono (ok' := fun k_ => (P0_ k_ ∨ w.heap.size ≤ k_)) ho0 (fun k_ hk_ => Or.elim hk_ (fun hs_ => hs_) (fun hn_ => (.inr (Nat.le_trans (q3 (by with_reducible exact HB.out)) hn_))))) (q3 (by with_reducible exact HB.out))); have n2_ := Aside0.mk (q10 (by with_reducible exact HB.out) hb); clear HO0; clear HB; have HO0 := n0_; have HO253 := n1_; have HB := n2_; clear n0_ n1_ n2_; (try clear hb); (try clear hb2); (try clear hk); (try clear hi); (try clear ho0); obtain ⟨Ao14, co14, eo14⟩ := Kd.N_slice HO253.out; subst eo14) | (go_at_call 29; (with_reducible refine (term_Result.calls k _ _ t251 t255 _ ?side1 ?side2 A6.out).mono ?_); (case side1 => repeat (exact (Kd.N_reads' HO253.out).2.2)); (case side2 => exact (Kd.N_reads' HO253.out).2.1); rintro e w15 ⟨rfl, hb⟩; have n0_ := Aside0.mk (Kd.V_below (by exact HO0.out) hb); have n1_ := Aside0.mk (Kd.N_below (by exact HO253.out) hb); have n2_ := Aside0.mk (q10 (by with_reducible exact HB.out) hb); clear HO0; clear HO253; clear HB; have HO0 := n0_; have HO253 := n1_; have HB := n2_; clear n0_ n1_ n2_; (try clear hb); (try clear hb2); (try clear hk); (try clear hi)))
        go_ret2
        exact ⟨_, by rfl, by exact Kd.N_nil _ _ _ _ _, by with_reducible exact HB.out⟩
    · replace c5 := Bool.eq_false_iff.mpr c5; subst c5
      have H1 : (some (([] : List (S44)), 110)) = some (r1, r2) := by rw [if_neg (show ¬ (false = true) by decide)] at H; exact H
      clear H; have H := H1; clear H1; simp only [Option.some.injEq, Prod.mk.injEq] at H; obtain ⟨rfl, rfl⟩ := H
      go_enter Try.func15, Try.ntmps15
      go_wp2_with (first | ((with_reducible refine q14 (f := 17) rfl ?_); refine goesL_ (some 8) rfl rfl Try.func17 (by kernel_rfl) rfl #[.slice A0 l0.length c0] rfl (by (try simp only [List.map_toArray, List.map_cons, List.map_nil]); rfl) ?_; (with_reducible refine (term_Value.calls k _ _ l0 t250 _ ?side1 ?side2 A2.out).mono ?_); (case side1 => repeat (exact (Kd.V_reads' HO0.out).2.2)); (case side2 => exact (Kd.V_reads' HO0.out).2.1); rintro e w16 ⟨rfl, hb⟩; refine ⟨_, rfl, ?_⟩; have n0_ := Aside0.mk (Kd.V_below (by exact HO0.out) hb); have n1_ := Aside0.mk (q10 (by with_reducible exact HB.out) hb); clear HO0; clear HB; have HO0 := n0_; have HB := n1_; clear n0_ n1_; (try clear hb); (try clear hb2); (try clear hk); (try clear hi)) | ((with_reducible refine q14 (f := 36) rfl ?_); refine goesL_ (some 14) rfl rfl Try.func36 (by kernel_rfl) rfl #[.slice A0 l0.length c0] rfl (by (try simp only [List.map_toArray, List.map_cons, List.map_nil]); rfl) ?_; (with_reducible refine (meta_dn.calls k (fun k_ => (P0_ k_ ∨ w.heap.size ≤ k_)) _ _ l0 t251 false _ ?side1 A4.out).mono ?_); (case side1 => exact HO0.out); rintro e w17 ⟨v252, rfl, ho0, hb⟩; refine ⟨_, rfl, ?_⟩; have n0_ := Aside0.mk (Kd.V_elder' (by exact HO0.out) (by exact Kd.N_base ho0) hb); have n1_ := Aside0.mk (Kd.N_lower (Kd.N_mono (ok' := fun k_ => (P0_ k_ ∨ w.heap.size ≤ k_)) ho0 (fun k_ hk_ => Or.elim hk_ (fun hs_ => hs_) (fun hn_ => (.inr (Nat.le_trans (q3 (by with_reducible exact HB.out)) hn_))))) (q3 (by with_reducible exact HB.out))); have n2_ := Aside0.mk (q10 (by with_reducible exact HB.out) hb); clear HO0; clear HB; have HO0 := n0_; have HO253 := n1_; have HB := n2_; clear n0_ n1_ n2_; (try clear hb); (try clear hb2); (try clear hk); (try clear hi); (try clear ho0)))
      go_ret2
      exact ⟨_, by rfl, by exact Kd.N_nil _ _ _ _ _, by with_reducible exact HB.out⟩
  · rw [if_neg c3] at H; have c3b0 : (t250 == 0) = false := beq_eq_false_iff_ne.mpr c3; have c3b1 : (t250 != 0) = true := bne_iff_ne.mpr c3; simp only [Option.some.injEq, Prod.mk.injEq] at H; obtain ⟨rfl, rfl⟩ := H
    go_enter Try.func15, Try.ntmps15
    go_wp2_with (first | ((with_reducible refine q14 (f := 17) rfl ?_); refine goesL_ (some 8) rfl rfl Try.func17 (by kernel_rfl) rfl #[.slice A0 l0.length c0] rfl (by (try simp only [List.map_toArray, List.map_cons, List.map_nil]); rfl) ?_; (with_reducible refine (term_Value.calls k _ _ l0 t250 _ ?side1 ?side2 A2.out).mono ?_); (case side1 => repeat (exact (Kd.V_reads' HO0.out).2.2)); (case side2 => exact (Kd.V_reads' HO0.out).2.1); rintro e w18 ⟨rfl, hb⟩; refine ⟨_, rfl, ?_⟩; have n0_ := Aside0.mk (Kd.V_below (by exact HO0.out) hb); have n1_ := Aside0.mk (q10 (by with_reducible exact HB.out) hb); clear HO0; clear HB; have HO0 := n0_; have HB := n1_; clear n0_ n1_; (try clear hb); (try clear hb2); (try clear hk); (try clear hi)))
    go_ret2
    exact ⟨_, by rfl, by exact Kd.N_nil _ _ _ _ _, by with_reducible exact HB.out⟩
mutual
def chiasmusref01_Size.l0 : Nat → List (S44) → Int → Int → Int → Option (Int × Int)
  | 0, _, _, _, _ => none
  | k + 1, x0, x4, x5, x6 => if x6 < (x0.length : Int) then (if 0 ≤ x6 then ((chiasmusref01_Size.f k ((rd_T44 x0 x6).f2)).bind fun bt257 => (if ((rd_T44 x0 x6).f0) = 4 then (chiasmusref01_Size.l0 k x0 (wrap64 ((wrap64 (x4 + bt257.1)) + 1)) (mx x5 (wrap64 (bt257.2 + 1))) (wrap64 (x6 + 1))) else (if ((rd_T44 x0 x6).f0) = 8 then (chiasmusref01_Size.l0 k x0 (wrap64 ((wrap64 (x4 + bt257.1)) + 1)) (mx x5 (wrap64 (bt257.2 + 1))) (wrap64 (x6 + 1))) else (if (((rd_T44 x0 x6).f2).length : Int) > 0 then (chiasmusref01_Size.l0 k x0 (wrap64 ((wrap64 (x4 + bt257.1)) + 1)) (mx x5 (wrap64 (bt257.2 + 1))) (wrap64 (x6 + 1))) else (chiasmusref01_Size.l0 k x0 (wrap64 ((wrap64 (x4 + bt257.1)) + 1)) (mx x5 bt257.2) (wrap64 (x6 + 1))))))) else (none)) else (some (x4, x5))
def chiasmusref01_Size.f : Nat → List (S44) → Option (Int × Int)
  | 0, _ => none
  | k + 1, l0 => chiasmusref01_Size.l0 k l0 0 0 0
end
set_option maxHeartbeats 8000000 in
set_option maxRecDepth 100000 in
theorem chiasmusref01_Size.calls (k : Nat) : ∀ (A0 : Option Addr) (c0 : Nat) (l0 : List (S44)) (r1 : Int) (r2 : Int) (w : World) (hr0 : Kd.C k44 w A0 l0.length l0) (hc0 : l0.length ≤ c0) (h : chiasmusref01_Size.f k l0 = some (r1, r2)),
    Calls Try.prog 58 #[.slice A0 l0.length c0] w fun e w' => e = .returned (.tuple #[.int .i64 r1, .int .i64 r2]) ∧ Below w.heap.size w w' := by
  induction k using Nat.strongRecOn with
  | _ k ih =>
  intro A0 c0 l0 r1 r2 w hr0 hc0 h
  cases k with
  | zero => exact absurd h (by simp [chiasmusref01_Size.f])
  | succ k =>
  simp only [chiasmusref01_Size.f] at h; have HR0 := Aside0.mk hr0; have HC0 := Aside0.mk hc0; clear hr0 hc0; have HB := Aside0.mk (Below.refl w.heap.size w); have H : (chiasmusref01_Size.l0 k l0 0 0 0) = some (r1, r2) := h; clear h; have H' := Aside0.mk H; clear H
  go_enter Try.func58, Try.ntmps58
  go_wp2
  go_loopg [4, 5, 6] k (fun kq v4 v5 v6 w' => ∃ (x4_1 : Int) (x5_1 : Int) (x6_1 : Int), v4 = .int .i64 x4_1 ∧ v5 = .int .i64 x5_1 ∧ v6 = .int .i64 x6_1 ∧ Aside0 (chiasmusref01_Size.l0 kq l0 x4_1 x5_1 x6_1 = some (r1, r2)) ∧ Aside0 (kq ≤ k) ∧ Aside0 (Below w.heap.size w w'))
  case atStart => exact ⟨(0), (0), (0), (by rfl), (by rfl), (by rfl), H', ⟨Nat.le_refl _⟩, ⟨by with_reducible exact HB.out⟩⟩
  case round =>
    clear H'; obtain ⟨x4_1, x5_1, x6_1, rfl, rfl, rfl, HA, HK1, HB⟩ := hrel
    cases gk with
    | zero => exact absurd HA.out (by simp [chiasmusref01_Size.l0])
    | succ k1 =>
      have H := HA.out; clear HA; simp only [chiasmusref01_Size.l0] at H
      by_cases c2 : x6_1 < (l0.length : Int)
      · rw [if_pos c2] at H; have c2b0 : decide (x6_1 < (l0.length : Int)) = true := decide_eq_true c2; clear c2
        by_cases c3 : 0 ≤ x6_1
        · rw [if_pos c3] at H; have c3b0 : decide (0 ≤ x6_1) = true := decide_eq_true c3; clear c3; replace H := Option.bind_eq_some_iff.mp H; obtain ⟨⟨t257, t258⟩, A40, H⟩ := H; replace H : (if ((rd_T44 l0 x6_1).f0) = 4 then (chiasmusref01_Size.l0 k1 l0 (wrap64 ((wrap64 (x4_1 + t257)) + 1)) (mx x5_1 (wrap64 (t258 + 1))) (wrap64 (x6_1 + 1))) else (if ((rd_T44 l0 x6_1).f0) = 8 then (chiasmusref01_Size.l0 k1 l0 (wrap64 ((wrap64 (x4_1 + t257)) + 1)) (mx x5_1 (wrap64 (t258 + 1))) (wrap64 (x6_1 + 1))) else (if (((rd_T44 l0 x6_1).f2).length : Int) > 0 then (chiasmusref01_Size.l0 k1 l0 (wrap64 ((wrap64 (x4_1 + t257)) + 1)) (mx x5_1 (wrap64 (t258 + 1))) (wrap64 (x6_1 + 1))) else (chiasmusref01_Size.l0 k1 l0 (wrap64 ((wrap64 (x4_1 + t257)) + 1)) (mx x5_1 t258) (wrap64 (x6_1 + 1)))))) = some (r1, r2) := H; have A4 := Aside0.mk A40; clear A40
          by_cases c5 : ((rd_T44 l0 x6_1).f0) = 4
          · rw [if_pos c5] at H; have c5b0 : (((rd_T44 l0 x6_1).f0) == 4) = true := beq_iff_eq.mpr c5; have c5b1 : (((rd_T44 l0 x6_1).f0) != 4) = false := bne_eq_false_iff_eq.mpr c5; clear c5; obtain ⟨ji6, hji6⟩ : ∃ j_ : Int, (mx x5_1 (wrap64 (t258 + 1))) = j_ := ⟨_, rfl⟩
            replace H : (chiasmusref01_Size.l0 k1 l0 (wrap64 ((wrap64 (x4_1 + t257)) + 1)) ji6 (wrap64 (x6_1 + 1))) = some (r1, r2) := by (rw [hji6] at H; exact H)
            (try rw [hji6] at A4)
            have hji6_ : (if x5_1 < (wrap64 (t258 + 1)) then (wrap64 (t258 + 1)) else x5_1) = ji6 := hji6; have H' := Aside0.mk H; clear H; have p256 : 0 ≤ (x6_1 : Int) := of_decide_eq_true (by (with_reducible assumption)); have q256 : x6_1 < (l0.length : Int) := of_decide_eq_true (by (with_reducible assumption)); obtain ⟨ad256, A256_2, c256_2, e256, hx256_0, hx256_1, hx256_2, hl256_2, hi256_2⟩ := at_T44 HR0.out x6_1 p256 q256; cases e256; replace hx256_0 := (HB.out.cell (World.block_lt_of_cell? w _ hx256_0)).trans hx256_0; replace hx256_1 := (HB.out.cell (World.block_lt_of_cell? w _ hx256_1)).trans hx256_1; replace hx256_2 := (HB.out.cell (World.block_lt_of_cell? w _ hx256_2)).trans hx256_2; have HR256_2 := Aside0.mk hi256_2; have HC256_2 := Aside0.mk hl256_2; clear hi256_2 hl256_2; replace p256 := eq_true p256; replace q256 := eq_true q256
            go_wp2_with (first | ((with_reducible refine q14 (f := 58) rfl ?_); refine goesL_ (some 21) rfl rfl Try.func58 (by kernel_rfl) rfl #[.slice A256_2 ((rd_T44 l0 x6_1).f2).length c256_2] rfl (by (try simp only [List.map_toArray, List.map_cons, List.map_nil]); rfl) ?_; (with_reducible refine (ih k1 (by have := HK1.out; omega) _ _ ((rd_T44 l0 x6_1).f2) t257 t258 _ ?side1 ?side2 A4.out).mono ?_); (case side1 => repeat (exact (Kd.C_below HR256_2.out HB.out))); (case side2 => exact HC256_2.out); rintro e w7 ⟨rfl, hb⟩; refine ⟨_, rfl, ?_⟩; have n0_ := Aside0.mk (q10 (by with_reducible exact HB.out) hb); clear HB; have HB := n0_; clear n0_; (try clear hb); (try clear hb2); (try clear hk); (try clear hi); have p259 : 0 ≤ (x6_1 : Int) := of_decide_eq_true (by (with_reducible assumption)); have q259 : x6_1 < (l0.length : Int) := of_decide_eq_true (by (with_reducible assumption)); obtain ⟨ad259, A259_2, c259_2, e259, hx259_0, hx259_1, hx259_2, hl259_2, hi259_2⟩ := at_T44 HR0.out x6_1 p259 q259; obtain rfl : ad256 = ad259 := (by injection e259); replace hx259_0 := (HB.out.cell (World.block_lt_of_cell? w _ hx259_0)).trans hx259_0; replace hx259_1 := (HB.out.cell (World.block_lt_of_cell? w _ hx259_1)).trans hx259_1; replace hx259_2 := (HB.out.cell (World.block_lt_of_cell? w _ hx259_2)).trans hx259_2; have HR259_2 := Aside0.mk hi259_2; have HC259_2 := Aside0.mk hl259_2; clear hi259_2 hl259_2; replace p259 := eq_true p259; replace q259 := eq_true q259))
            go_roundg k1
            case measure => have := HK1.out; omega
            case rel => exact ⟨(wrap64 ((wrap64 (x4_1 + t257)) + 1)), (ji6), (wrap64 (x6_1 + 1)), (by rfl), (by rfl), (by rfl), H', ⟨by have := HK1.out; omega⟩, ⟨by with_reducible exact HB.out⟩⟩
          · rw [if_neg c5] at H; have c5b0 : (((rd_T44 l0 x6_1).f0) == 4) = false := beq_eq_false_iff_ne.mpr c5; have c5b1 : (((rd_T44 l0 x6_1).f0) != 4) = true := bne_iff_ne.mpr c5
            by_cases c8 : ((rd_T44 l0 x6_1).f0) = 8
            · rw [if_pos c8] at H; have c8b0 : (((rd_T44 l0 x6_1).f0) == 8) = true := beq_iff_eq.mpr c8; have c8b1 : (((rd_T44 l0 x6_1).f0) != 8) = false := bne_eq_false_iff_eq.mpr c8; clear c8; obtain ⟨ji9, hji9⟩ : ∃ j_ : Int, (mx x5_1 (wrap64 (t258 + 1))) = j_ := ⟨_, rfl⟩
              replace H : (chiasmusref01_Size.l0 k1 l0 (wrap64 ((wrap64 (x4_1 + t257)) + 1)) ji9 (wrap64 (x6_1 + 1))) = some (r1, r2) := by (rw [hji9] at H; exact H)
              (try rw [hji9] at A4)
              have hji9_ : (if x5_1 < (wrap64 (t258 + 1)) then (wrap64 (t258 + 1)) else x5_1) = ji9 := hji9; have H' := Aside0.mk H; clear H; have p256 : 0 ≤ (x6_1 : Int) := of_decide_eq_true (by (with_reducible assumption)); have q256 : x6_1 < (l0.length : Int) := of_decide_eq_true (by (with_reducible assumption)); obtain ⟨ad256, A256_2, c256_2, e256, hx256_0, hx256_1, hx256_2, hl256_2, hi256_2⟩ := at_T44 HR0.out x6_1 p256 q256; cases e256; replace hx256_0 := (HB.out.cell (World.block_lt_of_cell? w _ hx256_0)).trans hx256_0; replace hx256_1 := (HB.out.cell (World.block_lt_of_cell? w _ hx256_1)).trans hx256_1; replace hx256_2 := (HB.out.cell (World.block_lt_of_cell? w _ hx256_2)).trans hx256_2; have HR256_2 := Aside0.mk hi256_2; have HC256_2 := Aside0.mk hl256_2; clear hi256_2 hl256_2; replace p256 := eq_true p256; replace q256 := eq_true q256
              go_wp2_with (first | ((with_reducible refine q14 (f := 58) rfl ?_); refine goesL_ (some 21) rfl rfl Try.func58 (by kernel_rfl) rfl #[.slice A256_2 ((rd_T44 l0 x6_1).f2).length c256_2] rfl (by (try simp only [List.map_toArray, List.map_cons, List.map_nil]); rfl) ?_; (with_reducible refine (ih k1 (by have := HK1.out; omega) _ _ ((rd_T44 l0 x6_1).f2) t257 t258 _ ?side1 ?side2 A4.out).mono ?_); (case side1 => repeat (exact (Kd.C_below HR256_2.out HB.out))); (case side2 => exact HC256_2.out); rintro e w10 ⟨rfl, hb⟩; refine ⟨_, rfl, ?_⟩; have n0_ := Aside0.mk (q10 (by with_reducible exact HB.out) hb); clear HB; have HB := n0_; clear n0_; (try clear hb); (try clear hb2); (try clear hk); (try clear hi); have p259 : 0 ≤ (x6_1 : Int) := of_decide_eq_true (by (with_reducible assumption)); have q259 : x6_1 < (l0.length : Int) := of_decide_eq_true (by (with_reducible assumption)); obtain ⟨ad259, A259_2, c259_2, e259, hx259_0, hx259_1, hx259_2, hl259_2, hi259_2⟩ := at_T44 HR0.out x6_1 p259 q259; obtain rfl : ad256 = ad259 := (by injection e259); replace hx259_0 := (HB.out.cell (World.block_lt_of_cell? w _ hx259_0)).trans hx259_0; replace hx259_1 := (HB.out.cell (World.block_lt_of_cell? w _ hx259_1)).trans hx259_1; replace hx259_2 := (HB.out.cell (World.block_lt_of_cell? w _ hx259_2)).trans hx259_2; have HR259_2 := Aside0.mk hi259_2; have HC259_2 := Aside0.mk hl259_2; clear hi259_2 hl259_2; replace p259 := eq_true p259; replace q259 := eq_true q259; have p260 : 0 ≤ (x6_1 : Int) := of_decide_eq_true (by (with_reducible assumption)); have q260 : x6_1 < (l0.length : Int) := of_decide_eq_true (by (with_reducible assumption)); obtain ⟨ad260, A260_2, c260_2, e260, hx260_0, hx260_1, hx260_2, hl260_2, hi260_2⟩ := at_T44 HR0.out x6_1 p260 q260; obtain rfl : ad256 = ad260 := (by injection e260); replace hx260_0 := (HB.out.cell (World.block_lt_of_cell? w _ hx260_0)).trans hx260_0; replace hx260_1 := (HB.out.cell (World.block_lt_of_cell? w _ hx260_1)).trans hx260_1; replace hx260_2 := (HB.out.cell (World.block_lt_of_cell? w _ hx260_2)).trans hx260_2; have HR260_2 := Aside0.mk hi260_2; have HC260_2 := Aside0.mk hl260_2; clear hi260_2 hl260_2; replace p260 := eq_true p260; replace q260 := eq_true q260; have ea_ := Option.some.inj (hx259_2.symm.trans hx260_2); injection ea_ with ea_ en_ ec_; subst ea_; subst ec_; clear en_))
              go_roundg k1
              case measure => have := HK1.out; omega
              case rel => exact ⟨(wrap64 ((wrap64 (x4_1 + t257)) + 1)), (ji9), (wrap64 (x6_1 + 1)), (by rfl), (by rfl), (by rfl), H', ⟨by have := HK1.out; omega⟩, ⟨by with_reducible exact HB.out⟩⟩
            · rw [if_neg c8] at H; have c8b0 : (((rd_T44 l0 x6_1).f0) == 8) = false := beq_eq_false_iff_ne.mpr c8; have c8b1 : (((rd_T44 l0 x6_1).f0) != 8) = true := bne_iff_ne.mpr c8
              by_cases c11 : (((rd_T44 l0 x6_1).f2).length : Int) > 0
              · rw [if_pos c11] at H; have c11b0 : decide (0 < (((rd_T44 l0 x6_1).f2).length : Int)) = true := decide_eq_true c11; have c11b1 : decide (0 < ((rd_T44 l0 x6_1).f2).length) = true := decide_eq_true (by omega); clear c11; obtain ⟨ji12, hji12⟩ : ∃ j_ : Int, (mx x5_1 (wrap64 (t258 + 1))) = j_ := ⟨_, rfl⟩
                replace H : (chiasmusref01_Size.l0 k1 l0 (wrap64 ((wrap64 (x4_1 + t257)) + 1)) ji12 (wrap64 (x6_1 + 1))) = some (r1, r2) := by (rw [hji12] at H; exact H)
                (try rw [hji12] at A4)
                have hji12_ : (if x5_1 < (wrap64 (t258 + 1)) then (wrap64 (t258 + 1)) else x5_1) = ji12 := hji12; have H' := Aside0.mk H; clear H; have p256 : 0 ≤ (x6_1 : Int) := of_decide_eq_true (by (with_reducible assumption)); have q256 : x6_1 < (l0.length : Int) := of_decide_eq_true (by (with_reducible assumption)); obtain ⟨ad256, A256_2, c256_2, e256, hx256_0, hx256_1, hx256_2, hl256_2, hi256_2⟩ := at_T44 HR0.out x6_1 p256 q256; cases e256; replace hx256_0 := (HB.out.cell (World.block_lt_of_cell? w _ hx256_0)).trans hx256_0; replace hx256_1 := (HB.out.cell (World.block_lt_of_cell? w _ hx256_1)).trans hx256_1; replace hx256_2 := (HB.out.cell (World.block_lt_of_cell? w _ hx256_2)).trans hx256_2; have HR256_2 := Aside0.mk hi256_2; have HC256_2 := Aside0.mk hl256_2; clear hi256_2 hl256_2; replace p256 := eq_true p256; replace q256 := eq_true q256
                go_wp2_with (first | ((with_reducible refine q14 (f := 58) rfl ?_); refine goesL_ (some 21) rfl rfl Try.func58 (by kernel_rfl) rfl #[.slice A256_2 ((rd_T44 l0 x6_1).f2).length c256_2] rfl (by (try simp only [List.map_toArray, List.map_cons, List.map_nil]); rfl) ?_; (with_reducible refine (ih k1 (by have := HK1.out; omega) _ _ ((rd_T44 l0 x6_1).f2) t257 t258 _ ?side1 ?side2 A4.out).mono ?_); (case side1 => repeat (exact (Kd.C_below HR256_2.out HB.out))); (case side2 => exact HC256_2.out); rintro e w13 ⟨rfl, hb⟩; refine ⟨_, rfl, ?_⟩; have n0_ := Aside0.mk (q10 (by with_reducible exact HB.out) hb); clear HB; have HB := n0_; clear n0_; (try clear hb); (try clear hb2); (try clear hk); (try clear hi); have p259 : 0 ≤ (x6_1 : Int) := of_decide_eq_true (by (with_reducible assumption)); have q259 : x6_1 < (l0.length : Int) := of_decide_eq_true (by (with_reducible assumption)); obtain ⟨ad259, A259_2, c259_2, e259, hx259_0, hx259_1, hx259_2, hl259_2, hi259_2⟩ := at_T44 HR0.out x6_1 p259 q259; obtain rfl : ad256 = ad259 := (by injection e259); replace hx259_0 := (HB.out.cell (World.block_lt_of_cell? w _ hx259_0)).trans hx259_0; replace hx259_1 := (HB.out.cell (World.block_lt_of_cell? w _ hx259_1)).trans hx259_1; replace hx259_2 := (HB.out.cell (World.block_lt_of_cell? w _ hx259_2)).trans hx259_2; have HR259_2 := Aside0.mk hi259_2; have HC259_2 := Aside0.mk hl259_2; clear hi259_2 hl259_2; replace p259 := eq_true p259; replace q259 := eq_true q259; have p260 : 0 ≤ (x6_1 : Int) := of_decide_eq_true (by (with_reducible assumption)); have q260 : x6_1 < (l0.length : Int) := of_decide_eq_true (by (with_reducible assumption)); obtain ⟨ad260, A260_2, c260_2, e260, hx260_0, hx260_1, hx260_2, hl260_2, hi260_2⟩ := at_T44 HR0.out x6_1 p260 q260; obtain rfl : ad256 = ad260 := (by injection e260); replace hx260_0 := (HB.out.cell (World.block_lt_of_cell? w _ hx260_0)).trans hx260_0; replace hx260_1 := (HB.out.cell (World.block_lt_of_cell? w _ hx260_1)).trans hx260_1; replace hx260_2 := (HB.out.cell (World.block_lt_of_cell? w _ hx260_2)).trans hx260_2; have HR260_2 := Aside0.mk hi260_2; have HC260_2 := Aside0.mk hl260_2; clear hi260_2 hl260_2; replace p260 := eq_true p260; replace q260 := eq_true q260; have ea_ := Option.some.inj (hx259_2.symm.trans hx260_2); injection ea_ with ea_ en_ ec_; subst ea_; subst ec_; clear en_; have p261 : 0 ≤ (x6_1 : Int) := of_decide_eq_true (by (with_reducible assumption)); have q261 : x6_1 < (l0.length : Int) := of_decide_eq_true (by (with_reducible assumption)); obtain ⟨ad261, A261_2, c261_2, e261, hx261_0, hx261_1, hx261_2, hl261_2, hi261_2⟩ := at_T44 HR0.out x6_1 p261 q261; obtain rfl : ad256 = ad261 := (by injection e261); replace hx261_0 := (HB.out.cell (World.block_lt_of_cell? w _ hx261_0)).trans hx261_0; replace hx261_1 := (HB.out.cell (World.block_lt_of_cell? w _ hx261_1)).trans hx261_1; replace hx261_2 := (HB.out.cell (World.block_lt_of_cell? w _ hx261_2)).trans hx261_2; have HR261_2 := Aside0.mk hi261_2; have HC261_2 := Aside0.mk hl261_2; clear hi261_2 hl261_2; replace p261 := eq_true p261; replace q261 := eq_true q261; have ea_ := Option.some.inj (hx259_2.symm.trans hx261_2); injection ea_ with ea_ en_ ec_; subst ea_; subst ec_; clear en_))
                go_roundg k1
                case measure => have := HK1.out; omega
                case rel => exact ⟨(wrap64 ((wrap64 (x4_1 + t257)) + 1)), (ji12), (wrap64 (x6_1 + 1)), (by rfl), (by rfl), (by rfl), H', ⟨by have := HK1.out; omega⟩, ⟨by with_reducible exact HB.out⟩⟩
              · rw [if_neg c11] at H; have c11b0 : decide (0 < (((rd_T44 l0 x6_1).f2).length : Int)) = false := decide_eq_false c11; have c11b1 : decide (0 < ((rd_T44 l0 x6_1).f2).length) = false := decide_eq_false (by omega); clear c11; obtain ⟨ji14, hji14⟩ : ∃ j_ : Int, (mx x5_1 t258) = j_ := ⟨_, rfl⟩
                replace H : (chiasmusref01_Size.l0 k1 l0 (wrap64 ((wrap64 (x4_1 + t257)) + 1)) ji14 (wrap64 (x6_1 + 1))) = some (r1, r2) := by (rw [hji14] at H; exact H)
                (try rw [hji14] at A4)
                have hji14_ : (if x5_1 < t258 then t258 else x5_1) = ji14 := hji14; have H' := Aside0.mk H; clear H; have p256 : 0 ≤ (x6_1 : Int) := of_decide_eq_true (by (with_reducible assumption)); have q256 : x6_1 < (l0.length : Int) := of_decide_eq_true (by (with_reducible assumption)); obtain ⟨ad256, A256_2, c256_2, e256, hx256_0, hx256_1, hx256_2, hl256_2, hi256_2⟩ := at_T44 HR0.out x6_1 p256 q256; cases e256; replace hx256_0 := (HB.out.cell (World.block_lt_of_cell? w _ hx256_0)).trans hx256_0; replace hx256_1 := (HB.out.cell (World.block_lt_of_cell? w _ hx256_1)).trans hx256_1; replace hx256_2 := (HB.out.cell (World.block_lt_of_cell? w _ hx256_2)).trans hx256_2; have HR256_2 := Aside0.mk hi256_2; have HC256_2 := Aside0.mk hl256_2; clear hi256_2 hl256_2; replace p256 := eq_true p256; replace q256 := eq_true q256
                go_wp2_with (first | ((with_reducible refine q14 (f := 58) rfl ?_); refine goesL_ (some 21) rfl rfl Try.func58 (by kernel_rfl) rfl #[.slice A256_2 ((rd_T44 l0 x6_1).f2).length c256_2] rfl (by (try simp only [List.map_toArray, List.map_cons, List.map_nil]); rfl) ?_; (with_reducible refine (ih k1 (by have := HK1.out; omega) _ _ ((rd_T44 l0 x6_1).f2) t257 t258 _ ?side1 ?side2 A4.out).mono ?_); (case side1 => repeat (exact (Kd.C_below HR256_2.out HB.out))); (case side2 => exact HC256_2.out); rintro e w15 ⟨rfl, hb⟩; refine ⟨_, rfl, ?_⟩; have n0_ := Aside0.mk (q10 (by with_reducible exact HB.out) hb); clear HB; have HB := n0_; clear n0_; (try clear hb); (try clear hb2); (try clear hk); (try clear hi); have p259 : 0 ≤ (x6_1 : Int) := of_decide_eq_true (by (with_reducible assumption)); have q259 : x6_1 < (l0.length : Int) := of_decide_eq_true (by (with_reducible assumption)); obtain ⟨ad259, A259_2, c259_2, e259, hx259_0, hx259_1, hx259_2, hl259_2, hi259_2⟩ := at_T44 HR0.out x6_1 p259 q259; obtain rfl : ad256 = ad259 := (by injection e259); replace hx259_0 := (HB.out.cell (World.block_lt_of_cell? w _ hx259_0)).trans hx259_0; replace hx259_1 := (HB.out.cell (World.block_lt_of_cell? w _ hx259_1)).trans hx259_1; replace hx259_2 := (HB.out.cell (World.block_lt_of_cell? w _ hx259_2)).trans hx259_2; have HR259_2 := Aside0.mk hi259_2; have HC259_2 := Aside0.mk hl259_2; clear hi259_2 hl259_2; replace p259 := eq_true p259; replace q259 := eq_true q259; have p260 : 0 ≤ (x6_1 : Int) := of_decide_eq_true (by (with_reducible assumption)); have q260 : x6_1 < (l0.length : Int) := of_decide_eq_true (by (with_reducible assumption)); obtain ⟨ad260, A260_2, c260_2, e260, hx260_0, hx260_1, hx260_2, hl260_2, hi260_2⟩ := at_T44 HR0.out x6_1 p260 q260; obtain rfl : ad256 = ad260 := (by injection e260); replace hx260_0 := (HB.out.cell (World.block_lt_of_cell? w _ hx260_0)).trans hx260_0; replace hx260_1 := (HB.out.cell (World.block_lt_of_cell? w _ hx260_1)).trans hx260_1; replace hx260_2 := (HB.out.cell (World.block_lt_of_cell? w _ hx260_2)).trans hx260_2; have HR260_2 := Aside0.mk hi260_2; have HC260_2 := Aside0.mk hl260_2; clear hi260_2 hl260_2; replace p260 := eq_true p260; replace q260 := eq_true q260; have ea_ := Option.some.inj (hx259_2.symm.trans hx260_2); injection ea_ with ea_ en_ ec_; subst ea_; subst ec_; clear en_; have p261 : 0 ≤ (x6_1 : Int) := of_decide_eq_true (by (with_reducible assumption)); have q261 : x6_1 < (l0.length : Int) := of_decide_eq_true (by (with_reducible assumption)); obtain ⟨ad261, A261_2, c261_2, e261, hx261_0, hx261_1, hx261_2, hl261_2, hi261_2⟩ := at_T44 HR0.out x6_1 p261 q261; obtain rfl : ad256 = ad261 := (by injection e261); replace hx261_0 := (HB.out.cell (World.block_lt_of_cell? w _ hx261_0)).trans hx261_0; replace hx261_1 := (HB.out.cell (World.block_lt_of_cell? w _ hx261_1)).trans hx261_1; replace hx261_2 := (HB.out.cell (World.block_lt_of_cell? w _ hx261_2)).trans hx261_2; have HR261_2 := Aside0.mk hi261_2; have HC261_2 := Aside0.mk hl261_2; clear hi261_2 hl261_2; replace p261 := eq_true p261; replace q261 := eq_true q261; have ea_ := Option.some.inj (hx259_2.symm.trans hx261_2); injection ea_ with ea_ en_ ec_; subst ea_; subst ec_; clear en_))
                go_roundg k1
                case measure => have := HK1.out; omega
                case rel => exact ⟨(wrap64 ((wrap64 (x4_1 + t257)) + 1)), (ji14), (wrap64 (x6_1 + 1)), (by rfl), (by rfl), (by rfl), H', ⟨by have := HK1.out; omega⟩, ⟨by with_reducible exact HB.out⟩⟩
        · rw [if_neg c3] at H; exact absurd H (by simp)
      · rw [if_neg c2] at H; have c2b0 : decide (x6_1 < (l0.length : Int)) = false := decide_eq_false c2; clear c2; simp only [Option.some.injEq, Prod.mk.injEq] at H; obtain ⟨rfl, rfl⟩ := H
        go_wp2
        go_ret2
        exact ⟨by rfl, by with_reducible exact HB.out⟩
def chiasmusref01_IsWord.l0 : Nat → ByteArray → Int → Option (Bool)
  | 0, _, _ => none
  | k + 1, x0, x3 => if x3 < (x0.size : Int) then (if 0 ≤ x3 then (if (bt x0 x3) < 32 then (some false) else (if (bt x0 x3) > 126 then (some false) else (chiasmusref01_IsWord.l0 k x0 (wrap64 (x3 + 1))))) else (none)) else (if x0.toList = ([] : List UInt8) then (some false) else (some (decide ((x0.size : Int) ≤ 60))))
def chiasmusref01_IsWord.f (k : Nat) (a0 : ByteArray) : Option (Bool) := chiasmusref01_IsWord.l0 k a0 0
set_option maxHeartbeats 8000000 in
set_option maxRecDepth 100000 in
theorem chiasmusref01_IsWord.calls (k : Nat) (a0 : ByteArray) (r : Bool) (w : World) (h : chiasmusref01_IsWord.f k a0 = some r) :
    Calls Try.prog 111 #[.string a0] w fun e w' => e = .returned (.bool r) ∧ Drawn0 w w' := by
  have H : (chiasmusref01_IsWord.l0 k a0 0) = some r := h; clear h; have H' := Aside0.mk H; clear H
  go_enter Try.func111, Try.ntmps111
  go_wp2
  go_loopg [3] k (fun kq v3 w' => ∃ (x3_1 : Int), v3 = .int .i64 x3_1 ∧ Aside0 (chiasmusref01_IsWord.l0 kq a0 x3_1 = some r) ∧ Aside0 (kq ≤ k) ∧ Drawn0 w w')
  case atStart => exact ⟨(0), (by rfl), H', ⟨Nat.le_refl _⟩, by repeat (exact Drawn0.refl _)⟩
  case round =>
    clear H'
    try clear c1
    obtain ⟨x3_1, rfl, HA, HK1, ⟨m1, rfl⟩⟩ := hrel
    cases gk with
    | zero => exact absurd HA.out (by simp [chiasmusref01_IsWord.l0])
    | succ k1 =>
      have H := HA.out; clear HA; simp only [chiasmusref01_IsWord.l0] at H
      by_cases c2 : x3_1 < (a0.size : Int)
      · rw [if_pos c2] at H; have c2b0 : decide (x3_1 < (a0.size : Int)) = true := decide_eq_true c2; clear c2
        by_cases c3 : 0 ≤ x3_1
        · rw [if_pos c3] at H; have c3b0 : decide (0 ≤ x3_1) = true := decide_eq_true c3; clear c3
          by_cases c5 : (bt a0 x3_1) < 32
          · rw [if_pos c5] at H; have c5b0 : decide ((bt a0 x3_1) < 32) = true := decide_eq_true c5; clear c5; obtain rfl := Option.some.inj H; have p4 : 0 ≤ (x3_1 : Int) := of_decide_eq_true (by (with_reducible assumption)); have q4 : x3_1 < (a0.size : Int) := of_decide_eq_true (by (with_reducible assumption)); have hx4 := bt_at a0 x3_1; replace p4 := eq_true p4; replace q4 := eq_true q4
            go_wp2
            go_ret; exact ⟨by rfl, by repeat (first | exact Drawn0.refl _ | apply Drawn0.step)⟩
          · rw [if_neg c5] at H; have c5b0 : decide ((bt a0 x3_1) < 32) = false := decide_eq_false c5; clear c5
            by_cases c7 : (bt a0 x3_1) > 126
            · rw [if_pos c7] at H; have c7b0 : decide (126 < (bt a0 x3_1)) = true := decide_eq_true c7; clear c7; obtain rfl := Option.some.inj H; have p4 : 0 ≤ (x3_1 : Int) := of_decide_eq_true (by (with_reducible assumption)); have q4 : x3_1 < (a0.size : Int) := of_decide_eq_true (by (with_reducible assumption)); have hx4 := bt_at a0 x3_1; replace p4 := eq_true p4; replace q4 := eq_true q4; have p6 : 0 ≤ (x3_1 : Int) := of_decide_eq_true (by (with_reducible assumption)); have q6 : x3_1 < (a0.size : Int) := of_decide_eq_true (by (with_reducible assumption)); have hx6 := bt_at a0 x3_1; replace p6 := eq_true p6; replace q6 := eq_true q6
              go_wp2
              go_ret; exact ⟨by rfl, by repeat (first | exact Drawn0.refl _ | apply Drawn0.step)⟩
            · rw [if_neg c7] at H; have c7b0 : decide (126 < (bt a0 x3_1)) = false := decide_eq_false c7; clear c7; have H' := Aside0.mk H; clear H; have p4 : 0 ≤ (x3_1 : Int) := of_decide_eq_true (by (with_reducible assumption)); have q4 : x3_1 < (a0.size : Int) := of_decide_eq_true (by (with_reducible assumption)); have hx4 := bt_at a0 x3_1; replace p4 := eq_true p4; replace q4 := eq_true q4; have p6 : 0 ≤ (x3_1 : Int) := of_decide_eq_true (by (with_reducible assumption)); have q6 : x3_1 < (a0.size : Int) := of_decide_eq_true (by (with_reducible assumption)); have hx6 := bt_at a0 x3_1; replace p6 := eq_true p6; replace q6 := eq_true q6
              go_wp2
              go_roundg k1
              case measure => have := HK1.out; omega
              case rel => exact ⟨(wrap64 (x3_1 + 1)), (by rfl), H', ⟨by have := HK1.out; omega⟩, by repeat (first | exact Drawn0.refl _ | apply Drawn0.step)⟩
        · rw [if_neg c3] at H; exact absurd H (by simp)
      · rw [if_neg c2] at H; have c2b0 : decide (x3_1 < (a0.size : Int)) = false := decide_eq_false c2; clear c2
        by_cases c8 : a0.toList = ([] : List UInt8)
        · rw [if_pos c8] at H; have c8b0 : (a0.toList == ([] : List UInt8)) = true := beq_iff_eq.mpr c8; have c8b1 : (a0.toList != ([] : List UInt8)) = false := bne_eq_false_iff_eq.mpr c8; clear c8; obtain rfl := Option.some.inj H
          go_wp2
          go_ret; exact ⟨by rfl, by repeat (first | exact Drawn0.refl _ | apply Drawn0.step)⟩
        · rw [if_neg c8] at H; have c8b0 : (a0.toList == ([] : List UInt8)) = false := beq_eq_false_iff_ne.mpr c8; have c8b1 : (a0.toList != ([] : List UInt8)) = true := bne_iff_ne.mpr c8; obtain rfl := Option.some.inj H
          go_wp2
          go_ret; exact ⟨by rfl, by repeat (first | exact Drawn0.refl _ | apply Drawn0.step)⟩
def chiasmusref01_Digit.f (a0 : Int) : Option (Bool) := if a0 ≥ 48 then (some (decide (a0 ≤ 57))) else (some false)
set_option maxHeartbeats 8000000 in
set_option maxRecDepth 100000 in
theorem chiasmusref01_Digit.calls (a0 : Int) (r : Bool) (w : World) (h : chiasmusref01_Digit.f a0 = some r) :
    Calls Try.prog 122 #[.int .u8 a0] w fun e w' => e = .returned (.bool r) ∧ Drawn0 w w' := by
  have H : (if a0 ≥ 48 then (some (decide (a0 ≤ 57))) else (some false)) = some r := h; clear h
  by_cases c2 : a0 ≥ 48
  · rw [if_pos c2] at H; have c2b0 : decide (48 ≤ a0) = true := decide_eq_true c2; clear c2; obtain rfl := Option.some.inj H
    go_enter Try.func122, Try.ntmps122
    go_wp2
    go_ret; exact ⟨by rfl, by repeat (exact Drawn0.refl _)⟩
  · rw [if_neg c2] at H; have c2b0 : decide (48 ≤ a0) = false := decide_eq_false c2; clear c2; obtain rfl := Option.some.inj H
    go_enter Try.func122, Try.ntmps122
    go_wp2
    go_ret; exact ⟨by rfl, by repeat (exact Drawn0.refl _)⟩
mutual
def chiasmusref01_IsNumber.j0 : Nat → ByteArray → Bool → Option (Bool)
  | 0, _, _ => none
  | k + 1, x0, x12 => if x12 = true then (if 1 ≤ (x0.size : Int) then (chiasmusref01_IsNumber.j1 k (x0.extract 1 x0.size)) else (none)) else (chiasmusref01_IsNumber.j1 k x0)
def chiasmusref01_IsNumber.j1 : Nat → ByteArray → Option (Bool)
  | 0, _ => none
  | k + 1, x0 => chiasmusref01_IsNumber.l0 k x0 0
def chiasmusref01_IsNumber.l0 : Nat → ByteArray → Int → Option (Bool)
  | 0, _, _ => none
  | k + 1, x0, x3 => if x3 < (x0.size : Int) then (if 0 ≤ x3 then ((chiasmusref01_Digit.f (bt x0 x3)).bind fun t262 => (if t262 = true then (chiasmusref01_IsNumber.l0 k x0 (wrap64 (x3 + 1))) else (some false))) else (none)) else (if x0.toList = ([] : List UInt8) then (some false) else (if (x0.size : Int) ≤ 500 then (if 0 < (x0.size : Int) then (some ((bt x0 0) != 48)) else (none)) else (some false)))
end
def chiasmusref01_IsNumber.f (k : Nat) (a0 : ByteArray) : Option (Bool) := if a0.toList = ([48] : List UInt8) then (some true) else (if a0.toList = ([] : List UInt8) then (chiasmusref01_IsNumber.j0 k a0 false) else (if 0 < (a0.size : Int) then (chiasmusref01_IsNumber.j0 k a0 ((bt a0 0) == 45)) else (none)))
set_option maxHeartbeats 8000000 in
set_option maxRecDepth 100000 in
theorem chiasmusref01_IsNumber.calls (k : Nat) (a0 : ByteArray) (r : Bool) (w : World) (h : chiasmusref01_IsNumber.f k a0 = some r) :
    Calls Try.prog 112 #[.string a0] w fun e w' => e = .returned (.bool r) ∧ Drawn0 w w' := by
  have H : (if a0.toList = ([48] : List UInt8) then (some true) else (if a0.toList = ([] : List UInt8) then (chiasmusref01_IsNumber.j0 k a0 false) else (if 0 < (a0.size : Int) then (chiasmusref01_IsNumber.j0 k a0 ((bt a0 0) == 45)) else (none)))) = some r := h; clear h
  by_cases c2 : a0.toList = ([48] : List UInt8)
  · rw [if_pos c2] at H; have c2b0 : (a0.toList == ([48] : List UInt8)) = true := beq_iff_eq.mpr c2; have c2b1 : (a0.toList != ([48] : List UInt8)) = false := bne_eq_false_iff_eq.mpr c2; clear c2; obtain rfl := Option.some.inj H
    go_enter Try.func112, Try.ntmps112
    go_wp2
    go_ret; exact ⟨by rfl, by repeat (exact Drawn0.refl _)⟩
  · rw [if_neg c2] at H; have c2b0 : (a0.toList == ([48] : List UInt8)) = false := beq_eq_false_iff_ne.mpr c2; have c2b1 : (a0.toList != ([48] : List UInt8)) = true := bne_iff_ne.mpr c2; have HC3 := Aside0.mk H; clear H
    go_enter Try.func112, Try.ntmps112
    go_upto_region 3 with (fail)
    go_cut [12] (fun v12 wc => ∃ (kq : Nat) (x12_2 : Bool), v12 = .bool x12_2 ∧ Aside0 (chiasmusref01_IsNumber.j0 kq a0 x12_2 = some r) ∧ Aside0 (kq ≤ k) ∧ Drawn0 w wc)
    case first =>
      have H := HC3.out; clear HC3
      by_cases c4 : a0.toList = ([] : List UInt8)
      · rw [if_pos c4] at H; have c4b0 : (a0.toList == ([] : List UInt8)) = true := beq_iff_eq.mpr c4; have c4b1 : (a0.toList != ([] : List UInt8)) = false := bne_eq_false_iff_eq.mpr c4; clear c4
        (skip)
        have H' := Aside0.mk H; clear H
        go_wp2
        go_meet
        case rel => exact ⟨_, (false), (by rfl), H', ⟨by omega⟩, by repeat (exact Drawn0.refl _)⟩
      · rw [if_neg c4] at H; have c4b0 : (a0.toList == ([] : List UInt8)) = false := beq_eq_false_iff_ne.mpr c4; have c4b1 : (a0.toList != ([] : List UInt8)) = true := bne_iff_ne.mpr c4
        (skip)
        by_cases c5 : 0 < (a0.size : Int)
        · rw [if_pos c5] at H; have c5b0 : decide (0 < (a0.size : Int)) = true := decide_eq_true c5; have c5b1 : decide (0 < a0.size) = true := decide_eq_true (by omega); clear c5; have H' := Aside0.mk H; clear H; have p6 : 0 ≤ (0 : Int) := (by omega); have q6 : 0 < a0.size := (by have : (0 : Int) < (a0.size : Int) := of_decide_eq_true (by (with_reducible assumption)); omega); have hx6 : ∀ h : 0 < a0.size, ((a0[0]'h).toNat : Int) = bt a0 0 := bt_at a0 0; clear p6; have qi6 : (0 < (a0.size : Int)) = True := eq_true (of_decide_eq_true (by (with_reducible assumption))); replace q6 := eq_true q6
          go_wp2
          go_meet
          case rel => exact ⟨_, (((bt a0 0) == 45)), (by rfl), H', ⟨by omega⟩, by repeat (exact Drawn0.refl _)⟩
        · rw [if_neg c5] at H; exact absurd H (by simp)
    case rest =>
      clear HC3
      try clear c1
      try clear c2
      try clear c2b0
      try clear c2b1
      try clear p2
      try clear c4
      try clear c4b0
      try clear c4b1
      try clear c5
      try clear c5b0
      try clear c5b1
      try clear p6
      try clear q6
      try clear hx6
      try clear qi6
      try clear p6
      try clear q6
      obtain ⟨kq, x12_2, rfl, HA, HJ2, ⟨mc2, rfl⟩⟩ := hcut
      cases kq with
      | zero => exact absurd HA.out (by simp [chiasmusref01_IsNumber.j0])
      | succ kj2 =>
        have H := HA.out; clear HA; simp only [chiasmusref01_IsNumber.j0] at H; have HC7 := Aside0.mk H; clear H
        go_upto_if 12 with (fail)
        go_cut [0] (fun v0 wc => ∃ (kq : Nat) (x0_6 : ByteArray), v0 = .string x0_6 ∧ Aside0 (chiasmusref01_IsNumber.j1 kq x0_6 = some r) ∧ Aside0 (kq ≤ kj2) ∧ Drawn0 w wc)
        case first =>
          have H := HC7.out; clear HC7
          by_cases c8 : x12_2 = true
          · subst c8
            have H1 : (if 1 ≤ (a0.size : Int) then (chiasmusref01_IsNumber.j1 kj2 (a0.extract 1 a0.size)) else (none)) = some r := by rw [if_pos rfl] at H; exact H
            clear H; have H := H1; clear H1
            by_cases c9 : 1 ≤ (a0.size : Int)
            · rw [if_pos c9] at H; have c9b0 := eq_true c9; have c9b1 : decide (1 ≤ (a0.size : Int)) = true := decide_eq_true c9; clear c9; have H' := Aside0.mk H; clear H
              go_wp2
              go_meet
              case rel => exact ⟨_, (a0.extract 1 a0.size), (by rfl), H', ⟨by have := HJ2.out; omega⟩, by repeat (first | exact Drawn0.refl _ | apply Drawn0.step)⟩
            · rw [if_neg c9] at H; exact absurd H (by simp)
          · replace c8 := Bool.eq_false_iff.mpr c8; subst c8
            have H1 : (chiasmusref01_IsNumber.j1 kj2 a0) = some r := by rw [if_neg (show ¬ (false = true) by decide)] at H; exact H
            clear H; have H := H1; clear H1; have H' := Aside0.mk H; clear H
            go_wp2
            go_meet
            case rel => exact ⟨_, (a0), (by rfl), H', ⟨by have := HJ2.out; omega⟩, by repeat (first | exact Drawn0.refl _ | apply Drawn0.step)⟩
        case rest =>
          clear HC7
          try clear c1
          try clear c2
          try clear c2b0
          try clear c2b1
          try clear p2
          try clear c4
          try clear c4b0
          try clear c4b1
          try clear c5
          try clear c5b0
          try clear c5b1
          try clear p6
          try clear q6
          try clear hx6
          try clear qi6
          try clear c8
          try clear c9
          try clear c9b0
          try clear c9b1
          try clear p2
          try clear p6
          try clear q6
          obtain ⟨kq, x0_6, rfl, HA, HJ6, ⟨mc6, rfl⟩⟩ := hcut
          cases kq with
          | zero => exact absurd HA.out (by simp [chiasmusref01_IsNumber.j1])
          | succ kj6 =>
            have H := HA.out; clear HA; simp only [chiasmusref01_IsNumber.j1] at H; have H' := Aside0.mk H; clear H
            go_wp2
            go_loopg [3] kj6 (fun kq v3 w' => ∃ (x3_3 : Int), v3 = .int .i64 x3_3 ∧ Aside0 (chiasmusref01_IsNumber.l0 kq x0_6 x3_3 = some r) ∧ Aside0 (kq ≤ kj6) ∧ Drawn0 w w')
            case atStart => exact ⟨(0), (by rfl), H', ⟨Nat.le_refl _⟩, by repeat (first | exact Drawn0.refl _ | apply Drawn0.step)⟩
            case round =>
              clear H'
              try clear c1
              try clear c2
              try clear c2b0
              try clear c2b1
              try clear p2
              try clear c4
              try clear c4b0
              try clear c4b1
              try clear c5
              try clear c5b0
              try clear c5b1
              try clear c6
              try clear p6
              try clear q6
              try clear hx6
              try clear qi6
              try clear c8
              try clear c9
              try clear c9b0
              try clear c9b1
              try clear p2
              try clear p6
              try clear q6
              obtain ⟨x3_3, rfl, HA, HK3, ⟨m3, rfl⟩⟩ := hrel
              cases gk with
              | zero => exact absurd HA.out (by simp [chiasmusref01_IsNumber.l0])
              | succ k3 =>
                have H := HA.out; clear HA; simp only [chiasmusref01_IsNumber.l0] at H
                by_cases c10 : x3_3 < (x0_6.size : Int)
                · rw [if_pos c10] at H; have c10b0 : decide (x3_3 < (x0_6.size : Int)) = true := decide_eq_true c10; clear c10
                  by_cases c11 : 0 ≤ x3_3
                  · rw [if_pos c11] at H; have c11b0 : decide (0 ≤ x3_3) = true := decide_eq_true c11; clear c11; replace H := Option.bind_eq_some_iff.mp H; obtain ⟨t262, A130, H⟩ := H; replace H : (if t262 = true then (chiasmusref01_IsNumber.l0 k3 x0_6 (wrap64 (x3_3 + 1))) else (some false)) = some r := H; have A13 := Aside0.mk A130; clear A130
                    by_cases c14 : t262 = true
                    · subst c14
                      have H1 : (chiasmusref01_IsNumber.l0 k3 x0_6 (wrap64 (x3_3 + 1))) = some r := by rw [if_pos rfl] at H; exact H
                      clear H; have H := H1; clear H1; have H' := Aside0.mk H; clear H; have p12 : 0 ≤ (x3_3 : Int) := of_decide_eq_true (by (with_reducible assumption)); have q12 : x3_3 < (x0_6.size : Int) := of_decide_eq_true (by (with_reducible assumption)); have hx12 := bt_at x0_6 x3_3; replace p12 := eq_true p12; replace q12 := eq_true q12
                      go_wp2_with (first | ((with_reducible refine q14 (f := 122) rfl ?_); refine goesL_ (some 24) rfl rfl Try.func122 (by kernel_rfl) rfl #[.int .u8 (bt x0_6 x3_3)] rfl (by (try simp only [List.map_toArray, List.map_cons, List.map_nil]); rfl) ?_; (with_reducible refine (chiasmusref01_Digit.calls (bt x0_6 x3_3) true _ A13.out).mono ?_); rintro e w' ⟨rfl, ⟨nd, rfl⟩⟩; refine ⟨_, rfl, ?_⟩))
                      go_roundg k3
                      case measure => have := HJ2.out; have := HJ6.out; have := HK3.out; omega
                      case rel => exact ⟨(wrap64 (x3_3 + 1)), (by rfl), H', ⟨by have := HJ2.out; have := HJ6.out; have := HK3.out; omega⟩, by repeat (first | exact Drawn0.refl _ | apply Drawn0.step)⟩
                    · replace c14 := Bool.eq_false_iff.mpr c14; subst c14
                      have H1 : (some false) = some r := by rw [if_neg (show ¬ (false = true) by decide)] at H; exact H
                      clear H; have H := H1; clear H1; obtain rfl := Option.some.inj H; have p12 : 0 ≤ (x3_3 : Int) := of_decide_eq_true (by (with_reducible assumption)); have q12 : x3_3 < (x0_6.size : Int) := of_decide_eq_true (by (with_reducible assumption)); have hx12 := bt_at x0_6 x3_3; replace p12 := eq_true p12; replace q12 := eq_true q12
                      go_wp2_with (first | ((with_reducible refine q14 (f := 122) rfl ?_); refine goesL_ (some 24) rfl rfl Try.func122 (by kernel_rfl) rfl #[.int .u8 (bt x0_6 x3_3)] rfl (by (try simp only [List.map_toArray, List.map_cons, List.map_nil]); rfl) ?_; (with_reducible refine (chiasmusref01_Digit.calls (bt x0_6 x3_3) false _ A13.out).mono ?_); rintro e w' ⟨rfl, ⟨nd, rfl⟩⟩; refine ⟨_, rfl, ?_⟩))
                      go_ret; exact ⟨by rfl, by repeat (first | exact Drawn0.refl _ | apply Drawn0.step)⟩
                  · rw [if_neg c11] at H; exact absurd H (by simp)
                · rw [if_neg c10] at H; have c10b0 : decide (x3_3 < (x0_6.size : Int)) = false := decide_eq_false c10; clear c10
                  by_cases c15 : x0_6.toList = ([] : List UInt8)
                  · rw [if_pos c15] at H; have c15b0 : (x0_6.toList == ([] : List UInt8)) = true := beq_iff_eq.mpr c15; have c15b1 : (x0_6.toList != ([] : List UInt8)) = false := bne_eq_false_iff_eq.mpr c15; clear c15; obtain rfl := Option.some.inj H
                    go_wp2
                    go_ret; exact ⟨by rfl, by repeat (first | exact Drawn0.refl _ | apply Drawn0.step)⟩
                  · rw [if_neg c15] at H; have c15b0 : (x0_6.toList == ([] : List UInt8)) = false := beq_eq_false_iff_ne.mpr c15; have c15b1 : (x0_6.toList != ([] : List UInt8)) = true := bne_iff_ne.mpr c15
                    by_cases c16 : (x0_6.size : Int) ≤ 500
                    · rw [if_pos c16] at H; have c16b0 : decide ((x0_6.size : Int) ≤ 500) = true := decide_eq_true c16; have c16b1 : decide (x0_6.size ≤ 500) = true := decide_eq_true (by omega); clear c16
                      by_cases c17 : 0 < (x0_6.size : Int)
                      · rw [if_pos c17] at H; have c17b0 : decide (0 < (x0_6.size : Int)) = true := decide_eq_true c17; have c17b1 : decide (0 < x0_6.size) = true := decide_eq_true (by omega); clear c17; obtain rfl := Option.some.inj H; have p18 : 0 ≤ (0 : Int) := (by omega); have q18 : 0 < x0_6.size := (by have : (0 : Int) < (x0_6.size : Int) := of_decide_eq_true (by (with_reducible assumption)); omega); have hx18 : ∀ h : 0 < x0_6.size, ((x0_6[0]'h).toNat : Int) = bt x0_6 0 := bt_at x0_6 0; clear p18; have qi18 : (0 < (x0_6.size : Int)) = True := eq_true (of_decide_eq_true (by (with_reducible assumption))); replace q18 := eq_true q18
                        go_wp2
                        go_ret; exact ⟨by rfl, by repeat (first | exact Drawn0.refl _ | apply Drawn0.step)⟩
                      · rw [if_neg c17] at H; exact absurd H (by simp)
                    · rw [if_neg c16] at H; have c16b0 : decide ((x0_6.size : Int) ≤ 500) = false := decide_eq_false c16; have c16b1 : decide (x0_6.size ≤ 500) = false := decide_eq_false (by omega); clear c16; obtain rfl := Option.some.inj H
                      go_wp2
                      go_ret; exact ⟨by rfl, by repeat (first | exact Drawn0.refl _ | apply Drawn0.step)⟩
def chiasmusref01_Letter.f (a0 : Int) : Option (Bool) := if a0 ≥ 97 then (if a0 ≤ 122 then (some true) else (if a0 ≥ 65 then (some (decide (a0 ≤ 90))) else (some false))) else (if a0 ≥ 65 then (some (decide (a0 ≤ 90))) else (some false))
set_option maxHeartbeats 8000000 in
set_option maxRecDepth 100000 in
theorem chiasmusref01_Letter.calls (a0 : Int) (r : Bool) (w : World) (h : chiasmusref01_Letter.f a0 = some r) :
    Calls Try.prog 123 #[.int .u8 a0] w fun e w' => e = .returned (.bool r) ∧ Drawn0 w w' := by
  have H : (if a0 ≥ 97 then (if a0 ≤ 122 then (some true) else (if a0 ≥ 65 then (some (decide (a0 ≤ 90))) else (some false))) else (if a0 ≥ 65 then (some (decide (a0 ≤ 90))) else (some false))) = some r := h; clear h
  by_cases c2 : a0 ≥ 97
  · rw [if_pos c2] at H; have c2b0 : decide (97 ≤ a0) = true := decide_eq_true c2; clear c2
    by_cases c3 : a0 ≤ 122
    · rw [if_pos c3] at H; have c3b0 : decide (a0 ≤ 122) = true := decide_eq_true c3; clear c3; obtain rfl := Option.some.inj H
      go_enter Try.func123, Try.ntmps123
      go_wp2
      go_ret; exact ⟨by rfl, by repeat (exact Drawn0.refl _)⟩
    · rw [if_neg c3] at H; have c3b0 : decide (a0 ≤ 122) = false := decide_eq_false c3; clear c3
      by_cases c4 : a0 ≥ 65
      · rw [if_pos c4] at H; have c4b0 : decide (65 ≤ a0) = true := decide_eq_true c4; clear c4; obtain rfl := Option.some.inj H
        go_enter Try.func123, Try.ntmps123
        go_wp2
        go_ret; exact ⟨by rfl, by repeat (exact Drawn0.refl _)⟩
      · rw [if_neg c4] at H; have c4b0 : decide (65 ≤ a0) = false := decide_eq_false c4; clear c4; obtain rfl := Option.some.inj H
        go_enter Try.func123, Try.ntmps123
        go_wp2
        go_ret; exact ⟨by rfl, by repeat (exact Drawn0.refl _)⟩
  · rw [if_neg c2] at H; have c2b0 : decide (97 ≤ a0) = false := decide_eq_false c2; clear c2
    by_cases c5 : a0 ≥ 65
    · rw [if_pos c5] at H; have c5b0 : decide (65 ≤ a0) = true := decide_eq_true c5; clear c5; obtain rfl := Option.some.inj H
      go_enter Try.func123, Try.ntmps123
      go_wp2
      go_ret; exact ⟨by rfl, by repeat (exact Drawn0.refl _)⟩
    · rw [if_neg c5] at H; have c5b0 : decide (65 ≤ a0) = false := decide_eq_false c5; clear c5; obtain rfl := Option.some.inj H
      go_enter Try.func123, Try.ntmps123
      go_wp2
      go_ret; exact ⟨by rfl, by repeat (exact Drawn0.refl _)⟩
end Go.Proofs.Ytnffhiiihegjbaa.MD
