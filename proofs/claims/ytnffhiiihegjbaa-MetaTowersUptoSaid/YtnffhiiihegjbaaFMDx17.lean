/- Part of the walk: lemmas and printed functions that the claim uses (wip/tools/trim.py). -/
import Derived.Test.YtnffhiiihegjbaaFMDx0
import Derived.Test.YtnffhiiihegjbaaFMDx4
import Derived.Test.YtnffhiiihegjbaaFMDx6
import Derived.Test.YtnffhiiihegjbaaFMDx16
namespace Go.Proofs.Ytnffhiiihegjbaa.MD
open Go.RowKit Go.Proofs.YtnffhiiihegjbaaW.PrintWords Go.Proofs.YtnffhiiihegjbaaW.PrintLast Go.Proofs.YtnffhiiihegjbaaW.PrintMore
attribute [local go_sem] max2_int min2_int max_two min_two max_three min_three max_four min_four
set_option linter.unusedVariables false
set_option linter.unusedSimpArgs false
mutual
def meta_Raise.j0 : Nat → List (S44) → Int → Bool → Option ((List (S44)) × Int)
  | 0, _, _, _ => none
  | k + 1, x0, x1, x14 => if x14 = true then (some (([] : List (S44)), 4)) else ((term_Result.f k x0).bind fun t397 => (if t397 = 0 then ((term_Copy.f k x0).bind fun t398 => (meta_Raise.l0 k t398 x1 0)) else (some (([] : List (S44)), t397))))
def meta_Raise.l0 : Nat → List (S44) → Int → Int → Option ((List (S44)) × Int)
  | 0, _, _, _ => none
  | k + 1, x0, x22, x23 => if x23 < x22 then ((meta_Up.f k x0).bind fun bt401 => (if bt401.2 = 0 then (meta_Raise.l0 k bt401.1 x22 (wrap64 (x23 + 1))) else (some (([] : List (S44)), bt401.2)))) else (some (x0, 0))
end
def meta_Raise.f (k : Nat) (l0 : List (S44)) (a1 : Int) : Option ((List (S44)) × Int) := if a1 < 0 then (meta_Raise.j0 k l0 a1 true) else (meta_Raise.j0 k l0 a1 (decide (a1 > 10)))
set_option maxHeartbeats 8000000 in
set_option maxRecDepth 100000 in
theorem meta_Raise.calls (k : Nat) (P0_ : Nat → Prop) (A0 : Option Addr) (c0 : Nat) (l0 : List (S44)) (a1 : Int) (r1 : List (S44)) (r2 : Int) (w : World) (hs0 : Kd.V k44 44 w w.heap.size (fun k_ => P0_ k_) (.slice A0 l0.length c0) l0) (h : meta_Raise.f k l0 a1 = some (r1, r2)) :
    Calls Try.prog 19 #[.slice A0 l0.length c0, .int .i64 a1] w fun e w' => ∃ v0_ : Value, e = .returned (.tuple #[v0_, .int .i64 r2]) ∧ Kd.N k44 44 w' w.heap.size (fun k_ => (P0_ k_ ∨ w.heap.size ≤ k_)) v0_ r1 ∧ Below w.heap.size w w' := by
  have HO0 := Aside0.mk (show Kd.V k44 44 w w.heap.size (fun k_ => (P0_ k_ ∨ w.heap.size ≤ k_)) (.slice A0 l0.length c0) l0 from Kd.V_mono hs0 (fun k_ hk => .inl hk)); have HB := Aside0.mk (Below.refl w.heap.size w); have H : (if a1 < 0 then (meta_Raise.j0 k l0 a1 true) else (meta_Raise.j0 k l0 a1 (decide (a1 > 10)))) = some (r1, r2) := h; clear h; have HC3 := Aside0.mk H; clear H
  go_enter Try.func19, Try.ntmps19
  go_upto_region 1 with (fail)
  go_cut [14] (fun v14 wc => ∃ (kq : Nat) (x14_2 : Bool), v14 = .bool x14_2 ∧ Aside0 (meta_Raise.j0 kq l0 a1 x14_2 = some (r1, r2)) ∧ Aside0 (kq ≤ k) ∧ Aside0 (Kd.V k44 44 wc w.heap.size (fun k_ => (P0_ k_ ∨ w.heap.size ≤ k_)) (.slice A0 l0.length c0) l0) ∧ Aside0 (Below w.heap.size w wc))
  case first =>
    have H := HC3.out; clear HC3
    by_cases c4 : a1 < 0
    · rw [if_pos c4] at H; have c4b0 : decide (a1 < 0) = true := decide_eq_true c4; clear c4
      (skip)
      have H' := Aside0.mk H; clear H
      go_wp2
      go_meet
      case rel => exact ⟨_, (true), (by rfl), H', ⟨by omega⟩, ⟨by exact HO0.out⟩, ⟨by with_reducible exact HB.out⟩⟩
    · rw [if_neg c4] at H; have c4b0 : decide (a1 < 0) = false := decide_eq_false c4; clear c4
      (skip)
      have H' := Aside0.mk H; clear H
      go_wp2
      go_meet
      case rel => exact ⟨_, (decide (a1 > 10)), (by rfl), H', ⟨by omega⟩, ⟨by exact HO0.out⟩, ⟨by with_reducible exact HB.out⟩⟩
  case rest =>
    clear HC3
    try clear c1
    try clear p2
    try clear c4
    try clear c4b0
    obtain ⟨kq, x14_2, rfl, HA, HJ2, HO_0, HB⟩ := hcut
    cases kq with
    | zero => exact absurd HA.out (by simp [meta_Raise.j0])
    | succ kj2 =>
      have H := HA.out; clear HA; simp only [meta_Raise.j0] at H
      by_cases c5 : x14_2 = true
      · subst c5
        have H1 : (some (([] : List (S44)), 4)) = some (r1, r2) := by rw [if_pos rfl] at H; exact H
        clear H; have H := H1; clear H1; simp only [Option.some.injEq, Prod.mk.injEq] at H; obtain ⟨rfl, rfl⟩ := H
        go_wp2
        go_ret2
        exact ⟨_, by rfl, by exact Kd.N_nil _ _ _ _ _, by with_reducible exact HB.out⟩
      · replace c5 := Bool.eq_false_iff.mpr c5; subst c5
        have H1 : ((term_Result.f kj2 l0).bind fun t397 => (if t397 = 0 then ((term_Copy.f kj2 l0).bind fun t398 => (meta_Raise.l0 kj2 t398 a1 0)) else (some (([] : List (S44)), t397)))) = some (r1, r2) := by rw [if_neg (show ¬ (false = true) by decide)] at H; exact H
        clear H; have H := H1; clear H1; replace H := Option.bind_eq_some_iff.mp H; obtain ⟨t397, A60, H⟩ := H; replace H : (if t397 = 0 then ((term_Copy.f kj2 l0).bind fun t398 => (meta_Raise.l0 kj2 t398 a1 0)) else (some (([] : List (S44)), t397))) = some (r1, r2) := H; have A6 := Aside0.mk A60; clear A60
        by_cases c7 : t397 = 0
        · rw [if_pos c7] at H; have c7b0 : (t397 == 0) = true := beq_iff_eq.mpr c7; have c7b1 : (t397 != 0) = false := bne_eq_false_iff_eq.mpr c7; clear c7; replace H := Option.bind_eq_some_iff.mp H; obtain ⟨t398, A80, H⟩ := H; replace H : (meta_Raise.l0 kj2 t398 a1 0) = some (r1, r2) := H; have A8 := Aside0.mk A80; clear A80; have H' := Aside0.mk H; clear H
          go_wp2_with (first | ((with_reducible refine q14 (f := 29) rfl ?_); refine goesL_ (some 16) rfl rfl Try.func29 (by kernel_rfl) rfl #[.slice A0 l0.length c0] rfl (by (try simp only [List.map_toArray, List.map_cons, List.map_nil]); rfl) ?_; (with_reducible refine (term_Result.calls kj2 _ _ l0 t397 _ ?side1 ?side2 A6.out).mono ?_); (case side1 => repeat (exact (Kd.V_reads' HO_0.out).2.2)); (case side2 => exact (Kd.V_reads' HO_0.out).2.1); rintro e w9 ⟨rfl, hb⟩; refine ⟨_, rfl, ?_⟩; have n0_ := Aside0.mk (Kd.V_below (by exact HO_0.out) hb); have n1_ := Aside0.mk (q10 (by with_reducible exact HB.out) hb); clear HO_0; clear HB; have HO_0 := n0_; have HB := n1_; clear n0_ n1_; (try clear hb); (try clear hb2); (try clear hk); (try clear hi)) | ((with_reducible refine q14 (f := 40) rfl ?_); refine goesL_ (some 21) rfl rfl Try.func40 (by kernel_rfl) rfl #[.slice A0 l0.length c0] rfl (by (try simp only [List.map_toArray, List.map_cons, List.map_nil]); rfl) ?_; (with_reducible refine (term_Copy.calls kj2 (fun k_ => (P0_ k_ ∨ w.heap.size ≤ k_)) _ _ l0 t398 _ ?side1 A8.out).mono ?_); (case side1 => exact HO_0.out); rintro e w10 ⟨v399, rfl, ho0, hb⟩; refine ⟨_, rfl, ?_⟩; have n0_ := Aside0.mk (Kd.V_elder' (by exact HO_0.out) (by exact Kd.N_base ho0) hb); have n1_ := Aside0.mk (Kd.N_lower (Kd.N_mono (ok' := fun k_ => (P0_ k_ ∨ w.heap.size ≤ k_)) ho0 (fun k_ hk_ => Or.elim hk_ (fun hs_ => hs_) (fun hn_ => (.inr (Nat.le_trans (q3 (by with_reducible exact HB.out)) hn_))))) (q3 (by with_reducible exact HB.out))); have n2_ := Aside0.mk (q10 (by with_reducible exact HB.out) hb); clear HO_0; clear HB; have HO_0 := n0_; have HO400 := n1_; have HB := n2_; clear n0_ n1_ n2_; (try clear hb); (try clear hb2); (try clear hk); (try clear hi); (try clear ho0)))
          go_loopg [0, 23] kj2 (fun kq v0 v23 w' => ∃ (x0_2 : List (S44)) (x23_2 : Int), v23 = .int .i64 x23_2 ∧ Aside0 (meta_Raise.l0 kq x0_2 a1 x23_2 = some (r1, r2)) ∧ Aside0 (kq ≤ kj2) ∧ Aside0 (Kd.N k44 44 w' w.heap.size (fun k_ => (P0_ k_ ∨ w.heap.size ≤ k_)) v0 x0_2) ∧ Aside0 (Below w.heap.size w w'))
          case atStart => exact ⟨(t398), (0), (by rfl), H', ⟨Nat.le_refl _⟩, ⟨by exact HO400.out⟩, ⟨by with_reducible exact HB.out⟩⟩
          case round =>
            clear H'
            try clear c1
            try clear c2
            try clear p2
            try clear c4
            try clear c4b0
            try clear c5
            try clear c7
            try clear c7b0
            try clear c7b1
            try clear p2
            obtain ⟨x0_2, x23_2, rfl, HA, HK2, HO_0, HB⟩ := hrel
            cases gk with
            | zero => exact absurd HA.out (by simp [meta_Raise.l0])
            | succ k2 =>
              have H := HA.out; clear HA; simp only [meta_Raise.l0] at H
              by_cases c11 : x23_2 < a1
              · rw [if_pos c11] at H; have c11b0 : decide (x23_2 < a1) = true := decide_eq_true c11; clear c11; replace H := Option.bind_eq_some_iff.mp H; obtain ⟨⟨t401, t404⟩, A120, H⟩ := H; replace H : (if t404 = 0 then (meta_Raise.l0 k2 t401 a1 (wrap64 (x23_2 + 1))) else (some (([] : List (S44)), t404))) = some (r1, r2) := H; have A12 := Aside0.mk A120; clear A120
                by_cases c13 : t404 = 0
                · rw [if_pos c13] at H; have c13b0 : (t404 == 0) = true := beq_iff_eq.mpr c13; have c13b1 : (t404 != 0) = false := bne_eq_false_iff_eq.mpr c13; clear c13; have H' := Aside0.mk H; clear H; obtain ⟨Ao14, co14, eo14⟩ := Kd.N_slice HO_0.out; subst eo14
                  go_wp2_with (first | ((with_reducible refine q14 (f := 12) rfl ?_); refine goesL_ (some 27) rfl rfl Try.func12 (by kernel_rfl) rfl #[.slice Ao14 x0_2.length co14] rfl (by (try simp only [List.map_toArray, List.map_cons, List.map_nil]); rfl) ?_; (with_reducible refine (meta_Up.calls k2 _ _ x0_2 t401 t404 _ ?side1 ?side2 A12.out).mono ?_); (case side1 => repeat (exact (Kd.N_reads' HO_0.out).2.2)); (case side2 => exact (Kd.N_reads' HO_0.out).2.1); rintro e w15 ⟨v402, rfl, ho0, hb⟩; refine ⟨_, rfl, ?_⟩; have n0_ := Aside0.mk (Kd.N_elder' (by exact HO_0.out) (by exact Kd.N_base ho0) hb); have n1_ := Aside0.mk (Kd.N_lower (Kd.N_mono (ok' := fun k_ => (P0_ k_ ∨ w.heap.size ≤ k_) ∧ some k_ ≠ (.slice Ao14 x0_2.length co14 : Value).ownBlock) ho0 (fun k_ hk_ => ⟨(.inr (Nat.le_trans (q3 (by with_reducible exact HB.out)) hk_)), (Kd.fresh' (Kd.N_lt (by exact HO_0.out)) k_ hk_)⟩)) (q3 (by with_reducible exact HB.out))); have n2_ := Aside0.mk (q10 (by with_reducible exact HB.out) hb); clear HO_0; clear HB; have HO_0 := n0_; have HO403 := n1_; have HB := n2_; clear n0_ n1_ n2_; (try clear hb); (try clear hb2); (try clear hk); (try clear hi); (try clear ho0)))
                  go_roundg k2
                  case measure => have := HJ2.out; have := HK2.out; omega
                  case rel => exact ⟨(t401), (wrap64 (x23_2 + 1)), (by rfl), H', ⟨by have := HJ2.out; have := HK2.out; omega⟩, ⟨by exact Kd.N_mono HO403.out (fun _ hk => hk.1)⟩, ⟨by with_reducible exact HB.out⟩⟩
                · rw [if_neg c13] at H; have c13b0 : (t404 == 0) = false := beq_eq_false_iff_ne.mpr c13; have c13b1 : (t404 != 0) = true := bne_iff_ne.mpr c13; simp only [Option.some.injEq, Prod.mk.injEq] at H; obtain ⟨rfl, rfl⟩ := H; obtain ⟨Ao16, co16, eo16⟩ := Kd.N_slice HO_0.out; subst eo16
                  go_wp2_with (first | ((with_reducible refine q14 (f := 12) rfl ?_); refine goesL_ (some 27) rfl rfl Try.func12 (by kernel_rfl) rfl #[.slice Ao16 x0_2.length co16] rfl (by (try simp only [List.map_toArray, List.map_cons, List.map_nil]); rfl) ?_; (with_reducible refine (meta_Up.calls k2 _ _ x0_2 t401 t404 _ ?side1 ?side2 A12.out).mono ?_); (case side1 => repeat (exact (Kd.N_reads' HO_0.out).2.2)); (case side2 => exact (Kd.N_reads' HO_0.out).2.1); rintro e w17 ⟨v402, rfl, ho0, hb⟩; refine ⟨_, rfl, ?_⟩; have n0_ := Aside0.mk (Kd.N_elder' (by exact HO_0.out) (by exact Kd.N_base ho0) hb); have n1_ := Aside0.mk (Kd.N_lower (Kd.N_mono (ok' := fun k_ => (P0_ k_ ∨ w.heap.size ≤ k_) ∧ some k_ ≠ (.slice Ao16 x0_2.length co16 : Value).ownBlock) ho0 (fun k_ hk_ => ⟨(.inr (Nat.le_trans (q3 (by with_reducible exact HB.out)) hk_)), (Kd.fresh' (Kd.N_lt (by exact HO_0.out)) k_ hk_)⟩)) (q3 (by with_reducible exact HB.out))); have n2_ := Aside0.mk (q10 (by with_reducible exact HB.out) hb); clear HO_0; clear HB; have HO_0 := n0_; have HO403 := n1_; have HB := n2_; clear n0_ n1_ n2_; (try clear hb); (try clear hb2); (try clear hk); (try clear hi); (try clear ho0)))
                  go_ret2
                  exact ⟨_, by rfl, by exact Kd.N_nil _ _ _ _ _, by with_reducible exact HB.out⟩
              · rw [if_neg c11] at H; have c11b0 : decide (x23_2 < a1) = false := decide_eq_false c11; clear c11; simp only [Option.some.injEq, Prod.mk.injEq] at H; obtain ⟨rfl, rfl⟩ := H
                go_wp2
                go_ret2
                exact ⟨_, by rfl, by exact HO_0.out, by with_reducible exact HB.out⟩
        · rw [if_neg c7] at H; have c7b0 : (t397 == 0) = false := beq_eq_false_iff_ne.mpr c7; have c7b1 : (t397 != 0) = true := bne_iff_ne.mpr c7; simp only [Option.some.injEq, Prod.mk.injEq] at H; obtain ⟨rfl, rfl⟩ := H
          go_wp2_with (first | ((with_reducible refine q14 (f := 29) rfl ?_); refine goesL_ (some 16) rfl rfl Try.func29 (by kernel_rfl) rfl #[.slice A0 l0.length c0] rfl (by (try simp only [List.map_toArray, List.map_cons, List.map_nil]); rfl) ?_; (with_reducible refine (term_Result.calls kj2 _ _ l0 t397 _ ?side1 ?side2 A6.out).mono ?_); (case side1 => repeat (exact (Kd.V_reads' HO_0.out).2.2)); (case side2 => exact (Kd.V_reads' HO_0.out).2.1); rintro e w18 ⟨rfl, hb⟩; refine ⟨_, rfl, ?_⟩; have n0_ := Aside0.mk (Kd.V_below (by exact HO_0.out) hb); have n1_ := Aside0.mk (q10 (by with_reducible exact HB.out) hb); clear HO_0; clear HB; have HO_0 := n0_; have HB := n1_; clear n0_ n1_; (try clear hb); (try clear hb2); (try clear hk); (try clear hi)))
          go_ret2
          exact ⟨_, by rfl, by exact Kd.N_nil _ _ _ _ _, by with_reducible exact HB.out⟩
end Go.Proofs.Ytnffhiiihegjbaa.MD
