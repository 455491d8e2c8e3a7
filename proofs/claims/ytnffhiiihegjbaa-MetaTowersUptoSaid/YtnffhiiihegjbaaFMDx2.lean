/- Part of the walk: lemmas and printed functions that the claim uses (wip/tools/trim.py). -/
import Derived.Test.YtnffhiiihegjbaaFMDx0
namespace Go.Proofs.Ytnffhiiihegjbaa.MD
open Go.RowKit Go.Proofs.YtnffhiiihegjbaaW.PrintWords Go.Proofs.YtnffhiiihegjbaaW.PrintLast Go.Proofs.YtnffhiiihegjbaaW.PrintMore
attribute [local go_sem] max2_int min2_int max_two min_two max_three min_three max_four min_four
set_option linter.unusedVariables false
set_option linter.unusedSimpArgs false
mutual
def term_depth.l0 : Nat → Int → List (S44) → Int → Int → Option (Int)
  | 0, _, _, _, _ => none
  | k + 1, x3, x6, x7, x8 => if x8 < x7 then (if 0 ≤ x8 then (if x8 < (x6.length : Int) then (if ((rd_T44 x6 x8).f0) = 4 then ((term_depth.f k ((rd_T44 x6 x8).f2)).bind fun t110 => (term_depth.l0 k (mx x3 (wrap64 (1 + t110))) x6 x7 (wrap64 (x8 + 1)))) else (if ((rd_T44 x6 x8).f0) = 8 then ((term_depth.f k ((rd_T44 x6 x8).f2)).bind fun t111 => (term_depth.l0 k (mx x3 (wrap64 (1 + t111))) x6 x7 (wrap64 (x8 + 1)))) else (if (((rd_T44 x6 x8).f2).length : Int) > 0 then ((term_depth.f k ((rd_T44 x6 x8).f2)).bind fun t112 => (term_depth.l0 k (mx x3 (wrap64 (1 + t112))) x6 x7 (wrap64 (x8 + 1)))) else (term_depth.l0 k x3 x6 x7 (wrap64 (x8 + 1)))))) else (none)) else (none)) else (some x3)
def term_depth.f : Nat → List (S44) → Option (Int)
  | 0, _ => none
  | k + 1, l0 => term_depth.l0 k 0 l0 (l0.length : Int) 0
end
theorem term_depth.mono_l : ∀ k, (∀ y0, LeO (term_depth.f k y0) (term_depth.f (k + 1) y0)) ∧ (∀ y0 y1 y2 y3, LeO (term_depth.l0 k y0 y1 y2 y3) (term_depth.l0 (k + 1) y0 y1 y2 y3))
  | 0 => ⟨fun _ r h => by simp [term_depth.f] at h, fun _ _ _ _ r h => by simp [term_depth.l0] at h⟩
  | k + 1 => by
    obtain ⟨ih0, ih1⟩ := term_depth.mono_l k; refine ⟨?_, ?_⟩
    · intro y0; unfold term_depth.f
      repeat' first
      | (with_reducible exact ih0 _)
      | (with_reducible exact ih1 _ _ _ _)
      | (with_reducible exact LeO.refl _)
      | (with_reducible exact LeO.none _)
      | (with_reducible refine LeO.ite ?_ ?_)
      | (with_reducible refine LeO.bind ?_ (fun _ => ?_))
      | exact ih0 _
      | exact ih1 _ _ _ _
      | exact LeO.none _
      | refine LeO.ite ?_ ?_
      | refine LeO.bind ?_ (fun _ => ?_)
    · intro y0 y1 y2 y3; unfold term_depth.l0
      repeat' first
      | (with_reducible exact ih0 _)
      | (with_reducible exact ih1 _ _ _ _)
      | (with_reducible exact LeO.refl _)
      | (with_reducible exact LeO.none _)
      | (with_reducible refine LeO.ite ?_ ?_)
      | (with_reducible refine LeO.bind ?_ (fun _ => ?_))
      | exact ih0 _
      | exact ih1 _ _ _ _
      | exact LeO.none _
      | refine LeO.ite ?_ ?_
      | refine LeO.bind ?_ (fun _ => ?_)
set_option maxHeartbeats 8000000 in
set_option maxRecDepth 100000 in
theorem term_depth.calls (k : Nat) : ∀ (A0 : Option Addr) (c0 : Nat) (l0 : List (S44)) (r : Int) (w : World) (hr0 : Kd.C k44 w A0 l0.length l0) (hc0 : l0.length ≤ c0) (h : term_depth.f k l0 = some r),
    Calls Try.prog 65 #[.slice A0 l0.length c0] w fun e w' => e = .returned (.int .i64 r) ∧ Below w.heap.size w w' := by
  induction k using Nat.strongRecOn with
  | _ k ih =>
  intro A0 c0 l0 r w hr0 hc0 h
  cases k with
  | zero => exact absurd h (by simp [term_depth.f])
  | succ k =>
  simp only [term_depth.f] at h; have hu44 := Try.underlying44; have HR0 := Aside0.mk hr0; have HC0 := Aside0.mk hc0; clear hr0 hc0; have HB := Aside0.mk (Below.refl w.heap.size w); have H : (term_depth.l0 k 0 l0 (l0.length : Int) 0) = some r := h; clear h; have H' := Aside0.mk H; clear H
  go_enter Try.func65, Try.ntmps65
  go_wp2
  go_loopg [3, 8] k (fun kq v3 v8 w' => ∃ (x3_1 : Int) (x8_1 : Int), v3 = .int .i64 x3_1 ∧ v8 = .int .i64 x8_1 ∧ Aside0 (term_depth.l0 kq x3_1 l0 (l0.length : Int) x8_1 = some r) ∧ Aside0 (kq ≤ k) ∧ Aside0 (Below w.heap.size w w'))
  case atStart => exact ⟨(0), (0), (by rfl), (by rfl), H', ⟨Nat.le_refl _⟩, ⟨by with_reducible exact HB.out⟩⟩
  case round =>
    clear H'; obtain ⟨x3_1, x8_1, rfl, rfl, HA, HK1, HB⟩ := hrel
    cases gk with
    | zero => exact absurd HA.out (by simp [term_depth.l0])
    | succ k1 =>
      have H := HA.out; clear HA; simp only [term_depth.l0] at H
      by_cases c2 : x8_1 < (l0.length : Int)
      · rw [if_pos c2] at H; have c2b0 : decide (x8_1 < (l0.length : Int)) = true := decide_eq_true c2; clear c2
        by_cases c3 : 0 ≤ x8_1
        · rw [if_pos c3] at H; have c3b0 : decide (0 ≤ x8_1) = true := decide_eq_true c3; clear c3
          by_cases c4 : x8_1 < (l0.length : Int)
          · rw [if_pos c4] at H; have c4b0 : decide (x8_1 < (l0.length : Int)) = true := decide_eq_true c4; clear c4
            by_cases c5 : ((rd_T44 l0 x8_1).f0) = 4
            · rw [if_pos c5] at H; have c5b0 : (((rd_T44 l0 x8_1).f0) == 4) = true := beq_iff_eq.mpr c5; have c5b1 : (((rd_T44 l0 x8_1).f0) != 4) = false := bne_eq_false_iff_eq.mpr c5; clear c5; replace H := Option.bind_eq_some_iff.mp H; obtain ⟨t110, A60, H⟩ := H; replace H : (term_depth.l0 k1 (mx x3_1 (wrap64 (1 + t110))) l0 (l0.length : Int) (wrap64 (x8_1 + 1))) = some r := H; have A6 := Aside0.mk A60; clear A60; obtain ⟨ji7, hji7⟩ : ∃ j_ : Int, (mx x3_1 (wrap64 (1 + t110))) = j_ := ⟨_, rfl⟩
              replace H : (term_depth.l0 k1 ji7 l0 (l0.length : Int) (wrap64 (x8_1 + 1))) = some r := by (rw [hji7] at H; exact H)
              (try rw [hji7] at A6)
              have hji7_ : (if x3_1 < (wrap64 (1 + t110)) then (wrap64 (1 + t110)) else x3_1) = ji7 := hji7; have H' := Aside0.mk H; clear H; have p108 : 0 ≤ (x8_1 : Int) := of_decide_eq_true (by (with_reducible assumption)); have q108 : x8_1 < (l0.length : Int) := of_decide_eq_true (by (with_reducible assumption)); obtain ⟨ad108, A108_2, c108_2, e108, hx108_0, hx108_1, hx108_2, hl108_2, hi108_2⟩ := at_T44 HR0.out x8_1 p108 q108; cases e108; replace hx108_0 := (HB.out.cell (World.block_lt_of_cell? w _ hx108_0)).trans hx108_0; replace hx108_1 := (HB.out.cell (World.block_lt_of_cell? w _ hx108_1)).trans hx108_1; replace hx108_2 := (HB.out.cell (World.block_lt_of_cell? w _ hx108_2)).trans hx108_2; have HR108_2 := Aside0.mk hi108_2; have HC108_2 := Aside0.mk hl108_2; clear hi108_2 hl108_2; replace p108 := eq_true p108; replace q108 := eq_true q108
              go_wp2_with (first | ((with_reducible refine q21 (N := 5) rfl ?_); (try (refine q25 (by rfl) ?_; dsimp only)); refine q22 ?hg (N := 5) ?hd (cs := #[.int .i64 0, .string (⟨#[]⟩ : ByteArray), .slice none 0 0]) (t := 44) ?hr ?_; (case hd => rfl); (case hg => rfl); (case hr => (go_simp; done)); intro gb109 hg w8 hbox hb; have n0_ := Aside0.mk (q10 (by with_reducible exact HB.out) hb); have n1_ := Aside0.mk (hbox); have n2_ := Aside0.mk ((by rw [hg]; exact (q3 (by with_reducible exact HB.out)) : w.heap.size ≤ gb109)); have n3_ := Aside0.mk ((by rw [hg]; exact (q3 (by with_reducible exact HB.out)) : w.heap.size ≤ gb109)); clear HB; have HB := n0_; have BK109 := n1_; have GW109 := n2_; have GE109 := n3_; clear n0_ n1_ n2_ n3_; clear hb hbox hg; have hcz9_0 : w8.cell? ⟨gb109, 0, none⟩ = some (.int .i64 0) := (q5 BK109.out 0).trans rfl; have hcz9_1 : w8.cell? ⟨gb109, 1, none⟩ = some (.string (⟨#[]⟩ : ByteArray)) := (q5 BK109.out 1).trans rfl; have hcz9_2 : w8.cell? ⟨gb109, 2, none⟩ = some (.slice none 0 0) := (q5 BK109.out 2).trans rfl; have hfz9_0 := q11 BK109.out 0; have hfz9_1 := q11 BK109.out 1; have hfz9_2 := q11 BK109.out 2) | ((with_reducible refine q14 (f := 65) rfl ?_); refine goesL_ (some 29) rfl rfl Try.func65 (by kernel_rfl) rfl #[.slice A108_2 ((rd_T44 l0 x8_1).f2).length c108_2] rfl (by (try simp only [List.map_toArray, List.map_cons, List.map_nil]); rfl) ?_; (with_reducible refine (ih k1 (by have := HK1.out; omega) _ _ ((rd_T44 l0 x8_1).f2) t110 _ ?side1 ?side2 A6.out).mono ?_); (case side1 => exact Kd.C_below HR108_2.out (by repeat ((with_reducible first | exact HB.out | refine q24 ?_ GE109.out)))); (case side2 => exact HC108_2.out); rintro e w10 ⟨rfl, hb⟩; refine ⟨_, rfl, ?_⟩; have n0_ := Aside0.mk (q16 (g := gb109) (o := .cells #[.int .i64 ((rd_T44 l0 x8_1).f0), .string ((rd_T44 l0 x8_1).f1), .slice A108_2 ((rd_T44 l0 x8_1).f2).length c108_2] 44 (0, 0)) (by refine q17 (cs := #[.int .i64 ((rd_T44 l0 x8_1).f0), .string ((rd_T44 l0 x8_1).f1), .slice none 0 0]) ?_ 2 _ rfl; refine q17 (cs := #[.int .i64 ((rd_T44 l0 x8_1).f0), .string (⟨#[]⟩ : ByteArray), .slice none 0 0]) ?_ 1 _ rfl; refine q17 (cs := #[.int .i64 0, .string (⟨#[]⟩ : ByteArray), .slice none 0 0]) ?_ 0 _ rfl; exact BK109.out) hb); have n1_ := Aside0.mk (q10 (by repeat ((with_reducible first | exact HB.out | refine q24 ?_ GE109.out))) hb); clear BK109; clear HB; have BK109 := n0_; have HB := n1_; clear n0_ n1_; (try clear hb); (try clear hb2); (try clear hk); (try clear hi)))
              go_roundg k1
              case measure => have := HK1.out; omega
              case rel => exact ⟨(ji7), (wrap64 (x8_1 + 1)), (by rfl), (by rfl), H', ⟨by have := HK1.out; omega⟩, ⟨by with_reducible exact HB.out⟩⟩
            · rw [if_neg c5] at H; have c5b0 : (((rd_T44 l0 x8_1).f0) == 4) = false := beq_eq_false_iff_ne.mpr c5; have c5b1 : (((rd_T44 l0 x8_1).f0) != 4) = true := bne_iff_ne.mpr c5
              by_cases c11 : ((rd_T44 l0 x8_1).f0) = 8
              · rw [if_pos c11] at H; have c11b0 : (((rd_T44 l0 x8_1).f0) == 8) = true := beq_iff_eq.mpr c11; have c11b1 : (((rd_T44 l0 x8_1).f0) != 8) = false := bne_eq_false_iff_eq.mpr c11; clear c11; replace H := Option.bind_eq_some_iff.mp H; obtain ⟨t111, A120, H⟩ := H; replace H : (term_depth.l0 k1 (mx x3_1 (wrap64 (1 + t111))) l0 (l0.length : Int) (wrap64 (x8_1 + 1))) = some r := H; have A12 := Aside0.mk A120; clear A120; obtain ⟨ji13, hji13⟩ : ∃ j_ : Int, (mx x3_1 (wrap64 (1 + t111))) = j_ := ⟨_, rfl⟩
                replace H : (term_depth.l0 k1 ji13 l0 (l0.length : Int) (wrap64 (x8_1 + 1))) = some r := by (rw [hji13] at H; exact H)
                (try rw [hji13] at A12)
                have hji13_ : (if x3_1 < (wrap64 (1 + t111)) then (wrap64 (1 + t111)) else x3_1) = ji13 := hji13; have H' := Aside0.mk H; clear H; have p108 : 0 ≤ (x8_1 : Int) := of_decide_eq_true (by (with_reducible assumption)); have q108 : x8_1 < (l0.length : Int) := of_decide_eq_true (by (with_reducible assumption)); obtain ⟨ad108, A108_2, c108_2, e108, hx108_0, hx108_1, hx108_2, hl108_2, hi108_2⟩ := at_T44 HR0.out x8_1 p108 q108; cases e108; replace hx108_0 := (HB.out.cell (World.block_lt_of_cell? w _ hx108_0)).trans hx108_0; replace hx108_1 := (HB.out.cell (World.block_lt_of_cell? w _ hx108_1)).trans hx108_1; replace hx108_2 := (HB.out.cell (World.block_lt_of_cell? w _ hx108_2)).trans hx108_2; have HR108_2 := Aside0.mk hi108_2; have HC108_2 := Aside0.mk hl108_2; clear hi108_2 hl108_2; replace p108 := eq_true p108; replace q108 := eq_true q108
                go_wp2_with (first | ((with_reducible refine q21 (N := 5) rfl ?_); (try (refine q25 (by rfl) ?_; dsimp only)); refine q22 ?hg (N := 5) ?hd (cs := #[.int .i64 0, .string (⟨#[]⟩ : ByteArray), .slice none 0 0]) (t := 44) ?hr ?_; (case hd => rfl); (case hg => rfl); (case hr => (go_simp; done)); intro gb109 hg w14 hbox hb; have n0_ := Aside0.mk (q10 (by with_reducible exact HB.out) hb); have n1_ := Aside0.mk (hbox); have n2_ := Aside0.mk ((by rw [hg]; exact (q3 (by with_reducible exact HB.out)) : w.heap.size ≤ gb109)); have n3_ := Aside0.mk ((by rw [hg]; exact (q3 (by with_reducible exact HB.out)) : w.heap.size ≤ gb109)); clear HB; have HB := n0_; have BK109 := n1_; have GW109 := n2_; have GE109 := n3_; clear n0_ n1_ n2_ n3_; clear hb hbox hg; have hcz15_0 : w14.cell? ⟨gb109, 0, none⟩ = some (.int .i64 0) := (q5 BK109.out 0).trans rfl; have hcz15_1 : w14.cell? ⟨gb109, 1, none⟩ = some (.string (⟨#[]⟩ : ByteArray)) := (q5 BK109.out 1).trans rfl; have hcz15_2 : w14.cell? ⟨gb109, 2, none⟩ = some (.slice none 0 0) := (q5 BK109.out 2).trans rfl; have hfz15_0 := q11 BK109.out 0; have hfz15_1 := q11 BK109.out 1; have hfz15_2 := q11 BK109.out 2) | ((with_reducible refine q14 (f := 65) rfl ?_); refine goesL_ (some 29) rfl rfl Try.func65 (by kernel_rfl) rfl #[.slice A108_2 ((rd_T44 l0 x8_1).f2).length c108_2] rfl (by (try simp only [List.map_toArray, List.map_cons, List.map_nil]); rfl) ?_; (with_reducible refine (ih k1 (by have := HK1.out; omega) _ _ ((rd_T44 l0 x8_1).f2) t111 _ ?side1 ?side2 A12.out).mono ?_); (case side1 => exact Kd.C_below HR108_2.out (by repeat ((with_reducible first | exact HB.out | refine q24 ?_ GE109.out)))); (case side2 => exact HC108_2.out); rintro e w16 ⟨rfl, hb⟩; refine ⟨_, rfl, ?_⟩; have n0_ := Aside0.mk (q16 (g := gb109) (o := .cells #[.int .i64 ((rd_T44 l0 x8_1).f0), .string ((rd_T44 l0 x8_1).f1), .slice A108_2 ((rd_T44 l0 x8_1).f2).length c108_2] 44 (0, 0)) (by refine q17 (cs := #[.int .i64 ((rd_T44 l0 x8_1).f0), .string ((rd_T44 l0 x8_1).f1), .slice none 0 0]) ?_ 2 _ rfl; refine q17 (cs := #[.int .i64 ((rd_T44 l0 x8_1).f0), .string (⟨#[]⟩ : ByteArray), .slice none 0 0]) ?_ 1 _ rfl; refine q17 (cs := #[.int .i64 0, .string (⟨#[]⟩ : ByteArray), .slice none 0 0]) ?_ 0 _ rfl; exact BK109.out) hb); have n1_ := Aside0.mk (q10 (by repeat ((with_reducible first | exact HB.out | refine q24 ?_ GE109.out))) hb); clear BK109; clear HB; have BK109 := n0_; have HB := n1_; clear n0_ n1_; (try clear hb); (try clear hb2); (try clear hk); (try clear hi)))
                go_roundg k1
                case measure => have := HK1.out; omega
                case rel => exact ⟨(ji13), (wrap64 (x8_1 + 1)), (by rfl), (by rfl), H', ⟨by have := HK1.out; omega⟩, ⟨by with_reducible exact HB.out⟩⟩
              · rw [if_neg c11] at H; have c11b0 : (((rd_T44 l0 x8_1).f0) == 8) = false := beq_eq_false_iff_ne.mpr c11; have c11b1 : (((rd_T44 l0 x8_1).f0) != 8) = true := bne_iff_ne.mpr c11
                by_cases c17 : (((rd_T44 l0 x8_1).f2).length : Int) > 0
                · rw [if_pos c17] at H; have c17b0 : decide (0 < (((rd_T44 l0 x8_1).f2).length : Int)) = true := decide_eq_true c17; have c17b1 : decide (0 < ((rd_T44 l0 x8_1).f2).length) = true := decide_eq_true (by omega); clear c17; replace H := Option.bind_eq_some_iff.mp H; obtain ⟨t112, A180, H⟩ := H; replace H : (term_depth.l0 k1 (mx x3_1 (wrap64 (1 + t112))) l0 (l0.length : Int) (wrap64 (x8_1 + 1))) = some r := H; have A18 := Aside0.mk A180; clear A180; obtain ⟨ji19, hji19⟩ : ∃ j_ : Int, (mx x3_1 (wrap64 (1 + t112))) = j_ := ⟨_, rfl⟩
                  replace H : (term_depth.l0 k1 ji19 l0 (l0.length : Int) (wrap64 (x8_1 + 1))) = some r := by (rw [hji19] at H; exact H)
                  (try rw [hji19] at A18)
                  have hji19_ : (if x3_1 < (wrap64 (1 + t112)) then (wrap64 (1 + t112)) else x3_1) = ji19 := hji19; have H' := Aside0.mk H; clear H; have p108 : 0 ≤ (x8_1 : Int) := of_decide_eq_true (by (with_reducible assumption)); have q108 : x8_1 < (l0.length : Int) := of_decide_eq_true (by (with_reducible assumption)); obtain ⟨ad108, A108_2, c108_2, e108, hx108_0, hx108_1, hx108_2, hl108_2, hi108_2⟩ := at_T44 HR0.out x8_1 p108 q108; cases e108; replace hx108_0 := (HB.out.cell (World.block_lt_of_cell? w _ hx108_0)).trans hx108_0; replace hx108_1 := (HB.out.cell (World.block_lt_of_cell? w _ hx108_1)).trans hx108_1; replace hx108_2 := (HB.out.cell (World.block_lt_of_cell? w _ hx108_2)).trans hx108_2; have HR108_2 := Aside0.mk hi108_2; have HC108_2 := Aside0.mk hl108_2; clear hi108_2 hl108_2; replace p108 := eq_true p108; replace q108 := eq_true q108
                  go_wp2_with (first | ((with_reducible refine q21 (N := 5) rfl ?_); (try (refine q25 (by rfl) ?_; dsimp only)); refine q22 ?hg (N := 5) ?hd (cs := #[.int .i64 0, .string (⟨#[]⟩ : ByteArray), .slice none 0 0]) (t := 44) ?hr ?_; (case hd => rfl); (case hg => rfl); (case hr => (go_simp; done)); intro gb109 hg w20 hbox hb; have n0_ := Aside0.mk (q10 (by with_reducible exact HB.out) hb); have n1_ := Aside0.mk (hbox); have n2_ := Aside0.mk ((by rw [hg]; exact (q3 (by with_reducible exact HB.out)) : w.heap.size ≤ gb109)); have n3_ := Aside0.mk ((by rw [hg]; exact (q3 (by with_reducible exact HB.out)) : w.heap.size ≤ gb109)); clear HB; have HB := n0_; have BK109 := n1_; have GW109 := n2_; have GE109 := n3_; clear n0_ n1_ n2_ n3_; clear hb hbox hg; have hcz21_0 : w20.cell? ⟨gb109, 0, none⟩ = some (.int .i64 0) := (q5 BK109.out 0).trans rfl; have hcz21_1 : w20.cell? ⟨gb109, 1, none⟩ = some (.string (⟨#[]⟩ : ByteArray)) := (q5 BK109.out 1).trans rfl; have hcz21_2 : w20.cell? ⟨gb109, 2, none⟩ = some (.slice none 0 0) := (q5 BK109.out 2).trans rfl; have hfz21_0 := q11 BK109.out 0; have hfz21_1 := q11 BK109.out 1; have hfz21_2 := q11 BK109.out 2) | ((with_reducible refine q14 (f := 65) rfl ?_); refine goesL_ (some 29) rfl rfl Try.func65 (by kernel_rfl) rfl #[.slice A108_2 ((rd_T44 l0 x8_1).f2).length c108_2] rfl (by (try simp only [List.map_toArray, List.map_cons, List.map_nil]); rfl) ?_; (with_reducible refine (ih k1 (by have := HK1.out; omega) _ _ ((rd_T44 l0 x8_1).f2) t112 _ ?side1 ?side2 A18.out).mono ?_); (case side1 => exact Kd.C_below HR108_2.out (by repeat ((with_reducible first | exact HB.out | refine q24 ?_ GE109.out)))); (case side2 => exact HC108_2.out); rintro e w22 ⟨rfl, hb⟩; refine ⟨_, rfl, ?_⟩; have n0_ := Aside0.mk (q16 (g := gb109) (o := .cells #[.int .i64 ((rd_T44 l0 x8_1).f0), .string ((rd_T44 l0 x8_1).f1), .slice A108_2 ((rd_T44 l0 x8_1).f2).length c108_2] 44 (0, 0)) (by refine q17 (cs := #[.int .i64 ((rd_T44 l0 x8_1).f0), .string ((rd_T44 l0 x8_1).f1), .slice none 0 0]) ?_ 2 _ rfl; refine q17 (cs := #[.int .i64 ((rd_T44 l0 x8_1).f0), .string (⟨#[]⟩ : ByteArray), .slice none 0 0]) ?_ 1 _ rfl; refine q17 (cs := #[.int .i64 0, .string (⟨#[]⟩ : ByteArray), .slice none 0 0]) ?_ 0 _ rfl; exact BK109.out) hb); have n1_ := Aside0.mk (q10 (by repeat ((with_reducible first | exact HB.out | refine q24 ?_ GE109.out))) hb); clear BK109; clear HB; have BK109 := n0_; have HB := n1_; clear n0_ n1_; (try clear hb); (try clear hb2); (try clear hk); (try clear hi)))
                  go_roundg k1
                  case measure => have := HK1.out; omega
                  case rel => exact ⟨(ji19), (wrap64 (x8_1 + 1)), (by rfl), (by rfl), H', ⟨by have := HK1.out; omega⟩, ⟨by with_reducible exact HB.out⟩⟩
                · rw [if_neg c17] at H; have c17b0 : decide (0 < (((rd_T44 l0 x8_1).f2).length : Int)) = false := decide_eq_false c17; have c17b1 : decide (0 < ((rd_T44 l0 x8_1).f2).length) = false := decide_eq_false (by omega); clear c17; have H' := Aside0.mk H; clear H; have p108 : 0 ≤ (x8_1 : Int) := of_decide_eq_true (by (with_reducible assumption)); have q108 : x8_1 < (l0.length : Int) := of_decide_eq_true (by (with_reducible assumption)); obtain ⟨ad108, A108_2, c108_2, e108, hx108_0, hx108_1, hx108_2, hl108_2, hi108_2⟩ := at_T44 HR0.out x8_1 p108 q108; cases e108; replace hx108_0 := (HB.out.cell (World.block_lt_of_cell? w _ hx108_0)).trans hx108_0; replace hx108_1 := (HB.out.cell (World.block_lt_of_cell? w _ hx108_1)).trans hx108_1; replace hx108_2 := (HB.out.cell (World.block_lt_of_cell? w _ hx108_2)).trans hx108_2; have HR108_2 := Aside0.mk hi108_2; have HC108_2 := Aside0.mk hl108_2; clear hi108_2 hl108_2; replace p108 := eq_true p108; replace q108 := eq_true q108
                  go_wp2_with (first | ((with_reducible refine q21 (N := 5) rfl ?_); (try (refine q25 (by rfl) ?_; dsimp only)); refine q22 ?hg (N := 5) ?hd (cs := #[.int .i64 0, .string (⟨#[]⟩ : ByteArray), .slice none 0 0]) (t := 44) ?hr ?_; (case hd => rfl); (case hg => rfl); (case hr => (go_simp; done)); intro gb109 hg w23 hbox hb; have n0_ := Aside0.mk (q10 (by with_reducible exact HB.out) hb); have n1_ := Aside0.mk (hbox); have n2_ := Aside0.mk ((by rw [hg]; exact (q3 (by with_reducible exact HB.out)) : w.heap.size ≤ gb109)); have n3_ := Aside0.mk ((by rw [hg]; exact (q3 (by with_reducible exact HB.out)) : w.heap.size ≤ gb109)); clear HB; have HB := n0_; have BK109 := n1_; have GW109 := n2_; have GE109 := n3_; clear n0_ n1_ n2_ n3_; clear hb hbox hg; have hcz24_0 : w23.cell? ⟨gb109, 0, none⟩ = some (.int .i64 0) := (q5 BK109.out 0).trans rfl; have hcz24_1 : w23.cell? ⟨gb109, 1, none⟩ = some (.string (⟨#[]⟩ : ByteArray)) := (q5 BK109.out 1).trans rfl; have hcz24_2 : w23.cell? ⟨gb109, 2, none⟩ = some (.slice none 0 0) := (q5 BK109.out 2).trans rfl; have hfz24_0 := q11 BK109.out 0; have hfz24_1 := q11 BK109.out 1; have hfz24_2 := q11 BK109.out 2))
                  go_roundg k1
                  case measure => have := HK1.out; omega
                  case rel => exact ⟨(x3_1), (wrap64 (x8_1 + 1)), (by rfl), (by rfl), H', ⟨by have := HK1.out; omega⟩, ⟨by repeat ((with_reducible first | exact HB.out | refine q24 ?_ GE109.out))⟩⟩
          · rw [if_neg c4] at H; exact absurd H (by simp)
        · rw [if_neg c3] at H; exact absurd H (by simp)
      · rw [if_neg c2] at H; have c2b0 : decide (x8_1 < (l0.length : Int)) = false := decide_eq_false c2; clear c2; obtain rfl := Option.some.inj H
        go_wp2
        go_ret; exact ⟨by rfl, by with_reducible exact HB.out⟩
mutual
def term_classOf.j0 : Nat → Int → Bool → Option (Int)
  | 0, _, _ => none
  | k + 1, x0, x3 => if x3 = true then (some 5) else (if x0 ≥ 48 then (term_classOf.j1 k x0 (decide (x0 ≤ 57))) else (term_classOf.j1 k x0 false))
def term_classOf.j1 : Nat → Int → Bool → Option (Int)
  | 0, _, _ => none
  | k + 1, x0, x18 => if x18 = true then (some 6) else (if x0 = 45 then (term_classOf.j2 k x0 true) else (term_classOf.j2 k x0 (x0 == 95)))
def term_classOf.j2 : Nat → Int → Bool → Option (Int)
  | 0, _, _ => none
  | k + 1, x0, x25 => if x25 = true then (some 4) else (if x0 = 32 then (some 8) else (if x0 = 9 then (some 8) else (if x0 = 10 then (some 8) else (if x0 = 13 then (some 8) else (some 0)))))
end
def term_classOf.f (k : Nat) (a0 : Int) : Option (Int) := if a0 ≥ 97 then (if a0 ≤ 122 then (term_classOf.j0 k a0 true) else (if a0 ≥ 65 then (term_classOf.j0 k a0 (decide (a0 ≤ 90))) else (term_classOf.j0 k a0 false))) else (if a0 ≥ 65 then (term_classOf.j0 k a0 (decide (a0 ≤ 90))) else (term_classOf.j0 k a0 false))
theorem term_classOf.mono_l : ∀ k, (∀ y0 y1, LeO (term_classOf.j0 k y0 y1) (term_classOf.j0 (k + 1) y0 y1)) ∧ (∀ y0 y1, LeO (term_classOf.j1 k y0 y1) (term_classOf.j1 (k + 1) y0 y1)) ∧ (∀ y0 y1, LeO (term_classOf.j2 k y0 y1) (term_classOf.j2 (k + 1) y0 y1))
  | 0 => ⟨fun _ _ r h => by simp [term_classOf.j0] at h, fun _ _ r h => by simp [term_classOf.j1] at h, fun _ _ r h => by simp [term_classOf.j2] at h⟩
  | k + 1 => by
    obtain ⟨ih0, ih1, ih2⟩ := term_classOf.mono_l k; refine ⟨?_, ?_, ?_⟩
    · intro y0 y1; unfold term_classOf.j0
      repeat' first
      | (with_reducible exact ih0 _ _)
      | (with_reducible exact ih1 _ _)
      | (with_reducible exact ih2 _ _)
      | (with_reducible exact LeO.refl _)
      | (with_reducible exact LeO.none _)
      | (with_reducible refine LeO.ite ?_ ?_)
      | (with_reducible refine LeO.bind ?_ (fun _ => ?_))
      | exact ih0 _ _
      | exact ih1 _ _
      | exact ih2 _ _
      | exact LeO.none _
      | refine LeO.ite ?_ ?_
      | refine LeO.bind ?_ (fun _ => ?_)
    · intro y0 y1; unfold term_classOf.j1
      repeat' first
      | (with_reducible exact ih0 _ _)
      | (with_reducible exact ih1 _ _)
      | (with_reducible exact ih2 _ _)
      | (with_reducible exact LeO.refl _)
      | (with_reducible exact LeO.none _)
      | (with_reducible refine LeO.ite ?_ ?_)
      | (with_reducible refine LeO.bind ?_ (fun _ => ?_))
      | exact ih0 _ _
      | exact ih1 _ _
      | exact ih2 _ _
      | exact LeO.none _
      | refine LeO.ite ?_ ?_
      | refine LeO.bind ?_ (fun _ => ?_)
    · intro y0 y1; unfold term_classOf.j2
      repeat' first
      | (with_reducible exact ih0 _ _)
      | (with_reducible exact ih1 _ _)
      | (with_reducible exact ih2 _ _)
      | (with_reducible exact LeO.refl _)
      | (with_reducible exact LeO.none _)
      | (with_reducible refine LeO.ite ?_ ?_)
      | (with_reducible refine LeO.bind ?_ (fun _ => ?_))
      | exact ih0 _ _
      | exact ih1 _ _
      | exact ih2 _ _
      | exact LeO.none _
      | refine LeO.ite ?_ ?_
      | refine LeO.bind ?_ (fun _ => ?_)
theorem term_classOf.mono : ∀ a0 k, LeO (term_classOf.f k a0) (term_classOf.f (k + 1) a0) := by
  intro a0 k; obtain ⟨ih0, ih1, ih2⟩ := term_classOf.mono_l k; unfold term_classOf.f
  repeat' first
      | (with_reducible exact ih0 _ _)
      | (with_reducible exact ih1 _ _)
      | (with_reducible exact ih2 _ _)
      | (with_reducible exact LeO.refl _)
      | (with_reducible exact LeO.none _)
      | (with_reducible refine LeO.ite ?_ ?_)
      | (with_reducible refine LeO.bind ?_ (fun _ => ?_))
      | exact ih0 _ _
      | exact ih1 _ _
      | exact ih2 _ _
      | exact LeO.none _
      | refine LeO.ite ?_ ?_
      | refine LeO.bind ?_ (fun _ => ?_)
set_option maxHeartbeats 8000000 in
set_option maxRecDepth 100000 in
theorem term_classOf.calls (k : Nat) (a0 : Int) (r : Int) (w : World) (h : term_classOf.f k a0 = some r) :
    Calls Try.prog 115 #[.int .u8 a0] w fun e w' => e = .returned (.int .u8 r) ∧ Drawn0 w w' := by
  have H : (if a0 ≥ 97 then (if a0 ≤ 122 then (term_classOf.j0 k a0 true) else (if a0 ≥ 65 then (term_classOf.j0 k a0 (decide (a0 ≤ 90))) else (term_classOf.j0 k a0 false))) else (if a0 ≥ 65 then (term_classOf.j0 k a0 (decide (a0 ≤ 90))) else (term_classOf.j0 k a0 false))) = some r := h; clear h; have HC2 := Aside0.mk H; clear H
  go_enter Try.func115, Try.ntmps115
  go_upto_region 1 with (fail)
  go_cut [3] (fun v3 wc => ∃ (kq : Nat) (x3_1 : Bool), v3 = .bool x3_1 ∧ Aside0 (term_classOf.j0 kq a0 x3_1 = some r) ∧ Aside0 (kq ≤ k) ∧ Drawn0 w wc)
  case first =>
    have H := HC2.out; clear HC2
    by_cases c3 : a0 ≥ 97
    · rw [if_pos c3] at H; have c3b0 : decide (97 ≤ a0) = true := decide_eq_true c3; clear c3
      (skip)
      by_cases c4 : a0 ≤ 122
      · rw [if_pos c4] at H; have c4b0 : decide (a0 ≤ 122) = true := decide_eq_true c4; clear c4; have H' := Aside0.mk H; clear H
        go_wp2
        go_meet
        case rel => exact ⟨_, (true), (by rfl), H', ⟨by omega⟩, by repeat (exact Drawn0.refl _)⟩
      · rw [if_neg c4] at H; have c4b0 : decide (a0 ≤ 122) = false := decide_eq_false c4; clear c4
        by_cases c5 : a0 ≥ 65
        · rw [if_pos c5] at H; have c5b0 : decide (65 ≤ a0) = true := decide_eq_true c5; clear c5; have H' := Aside0.mk H; clear H
          go_wp2
          go_meet
          case rel => exact ⟨_, (decide (a0 ≤ 90)), (by rfl), H', ⟨by omega⟩, by repeat (exact Drawn0.refl _)⟩
        · rw [if_neg c5] at H; have c5b0 : decide (65 ≤ a0) = false := decide_eq_false c5; clear c5; have H' := Aside0.mk H; clear H
          go_wp2
          go_meet
          case rel => exact ⟨_, (false), (by rfl), H', ⟨by omega⟩, by repeat (exact Drawn0.refl _)⟩
    · rw [if_neg c3] at H; have c3b0 : decide (97 ≤ a0) = false := decide_eq_false c3; clear c3
      (skip)
      by_cases c6 : a0 ≥ 65
      · rw [if_pos c6] at H; have c6b0 : decide (65 ≤ a0) = true := decide_eq_true c6; clear c6; have H' := Aside0.mk H; clear H
        go_wp2
        go_meet
        case rel => exact ⟨_, (decide (a0 ≤ 90)), (by rfl), H', ⟨by omega⟩, by repeat (exact Drawn0.refl _)⟩
      · rw [if_neg c6] at H; have c6b0 : decide (65 ≤ a0) = false := decide_eq_false c6; clear c6; have H' := Aside0.mk H; clear H
        go_wp2
        go_meet
        case rel => exact ⟨_, (false), (by rfl), H', ⟨by omega⟩, by repeat (exact Drawn0.refl _)⟩
  case rest =>
    clear HC2
    try clear c1
    try clear p2
    try clear c3
    try clear c3b0
    try clear c4
    try clear c4b0
    try clear c5
    try clear c5b0
    try clear c6
    try clear c6b0
    obtain ⟨kq, x3_1, rfl, HA, HJ1, ⟨mc1, rfl⟩⟩ := hcut
    cases kq with
    | zero => exact absurd HA.out (by simp [term_classOf.j0])
    | succ kj1 =>
      have H := HA.out; clear HA; simp only [term_classOf.j0] at H
      by_cases c7 : x3_1 = true
      · subst c7
        have H1 : (some 5) = some r := by rw [if_pos rfl] at H; exact H
        clear H; have H := H1; clear H1; obtain rfl := Option.some.inj H
        go_wp2
        go_ret; exact ⟨by rfl, by repeat (first | exact Drawn0.refl _ | apply Drawn0.step)⟩
      · replace c7 := Bool.eq_false_iff.mpr c7; subst c7
        have H1 : (if a0 ≥ 48 then (term_classOf.j1 kj1 a0 (decide (a0 ≤ 57))) else (term_classOf.j1 kj1 a0 false)) = some r := by rw [if_neg (show ¬ (false = true) by decide)] at H; exact H
        clear H; have H := H1; clear H1; have HC8 := Aside0.mk H; clear H
        go_upto_region 3 with (fail)
        go_cut [18] (fun v18 wc => ∃ (kq : Nat) (x18_7 : Bool), v18 = .bool x18_7 ∧ Aside0 (term_classOf.j1 kq a0 x18_7 = some r) ∧ Aside0 (kq ≤ kj1) ∧ Drawn0 w wc)
        case first =>
          have H := HC8.out; clear HC8
          by_cases c9 : a0 ≥ 48
          · rw [if_pos c9] at H; have c9b0 : decide (48 ≤ a0) = true := decide_eq_true c9; clear c9
            (skip)
            have H' := Aside0.mk H; clear H
            go_wp2
            go_meet
            case rel => exact ⟨_, (decide (a0 ≤ 57)), (by rfl), H', ⟨by have := HJ1.out; omega⟩, by repeat (first | exact Drawn0.refl _ | apply Drawn0.step)⟩
          · rw [if_neg c9] at H; have c9b0 : decide (48 ≤ a0) = false := decide_eq_false c9; clear c9
            (skip)
            have H' := Aside0.mk H; clear H
            go_wp2
            go_meet
            case rel => exact ⟨_, (false), (by rfl), H', ⟨by have := HJ1.out; omega⟩, by repeat (first | exact Drawn0.refl _ | apply Drawn0.step)⟩
        case rest =>
          clear HC8
          try clear c1
          try clear p2
          try clear c3
          try clear c3b0
          try clear c4
          try clear c4b0
          try clear c5
          try clear c5b0
          try clear c6
          try clear c6b0
          try clear c7
          try clear c9
          try clear c9b0
          try clear p2
          obtain ⟨kq, x18_7, rfl, HA, HJ7, ⟨mc7, rfl⟩⟩ := hcut
          cases kq with
          | zero => exact absurd HA.out (by simp [term_classOf.j1])
          | succ kj7 =>
            have H := HA.out; clear HA; simp only [term_classOf.j1] at H
            by_cases c10 : x18_7 = true
            · subst c10
              have H1 : (some 6) = some r := by rw [if_pos rfl] at H; exact H
              clear H; have H := H1; clear H1; obtain rfl := Option.some.inj H
              go_wp2
              go_ret; exact ⟨by rfl, by repeat (first | exact Drawn0.refl _ | apply Drawn0.step)⟩
            · replace c10 := Bool.eq_false_iff.mpr c10; subst c10
              have H1 : (if a0 = 45 then (term_classOf.j2 kj7 a0 true) else (term_classOf.j2 kj7 a0 (a0 == 95))) = some r := by rw [if_neg (show ¬ (false = true) by decide)] at H; exact H
              clear H; have H := H1; clear H1; have HC11 := Aside0.mk H; clear H
              go_upto_region 5 with (fail)
              go_cut [25] (fun v25 wc => ∃ (kq : Nat) (x25_10 : Bool), v25 = .bool x25_10 ∧ Aside0 (term_classOf.j2 kq a0 x25_10 = some r) ∧ Aside0 (kq ≤ kj7) ∧ Drawn0 w wc)
              case first =>
                have H := HC11.out; clear HC11
                by_cases c12 : a0 = 45
                · rw [if_pos c12] at H; have c12b0 : (a0 == 45) = true := beq_iff_eq.mpr c12; have c12b1 : (a0 != 45) = false := bne_eq_false_iff_eq.mpr c12; clear c12
                  (skip)
                  have H' := Aside0.mk H; clear H
                  go_wp2
                  go_meet
                  case rel => exact ⟨_, (true), (by rfl), H', ⟨by have := HJ1.out; have := HJ7.out; omega⟩, by repeat (first | exact Drawn0.refl _ | apply Drawn0.step)⟩
                · rw [if_neg c12] at H; have c12b0 : (a0 == 45) = false := beq_eq_false_iff_ne.mpr c12; have c12b1 : (a0 != 45) = true := bne_iff_ne.mpr c12
                  (skip)
                  have H' := Aside0.mk H; clear H
                  go_wp2
                  go_meet
                  case rel => exact ⟨_, ((a0 == 95)), (by rfl), H', ⟨by have := HJ1.out; have := HJ7.out; omega⟩, by repeat (first | exact Drawn0.refl _ | apply Drawn0.step)⟩
              case rest =>
                clear HC11
                try clear c1
                try clear p2
                try clear c3
                try clear c3b0
                try clear c4
                try clear c4b0
                try clear c5
                try clear c5b0
                try clear c6
                try clear c6b0
                try clear c7
                try clear c9
                try clear c9b0
                try clear c10
                try clear c11
                try clear c12
                try clear c12b0
                try clear c12b1
                try clear p2
                obtain ⟨kq, x25_10, rfl, HA, HJ10, ⟨mc10, rfl⟩⟩ := hcut
                cases kq with
                | zero => exact absurd HA.out (by simp [term_classOf.j2])
                | succ kj10 =>
                  have H := HA.out; clear HA; simp only [term_classOf.j2] at H
                  by_cases c13 : x25_10 = true
                  · subst c13
                    have H1 : (some 4) = some r := by rw [if_pos rfl] at H; exact H
                    clear H; have H := H1; clear H1; obtain rfl := Option.some.inj H
                    go_wp2
                    go_ret; exact ⟨by rfl, by repeat (first | exact Drawn0.refl _ | apply Drawn0.step)⟩
                  · replace c13 := Bool.eq_false_iff.mpr c13; subst c13
                    have H1 : (if a0 = 32 then (some 8) else (if a0 = 9 then (some 8) else (if a0 = 10 then (some 8) else (if a0 = 13 then (some 8) else (some 0))))) = some r := by rw [if_neg (show ¬ (false = true) by decide)] at H; exact H
                    clear H; have H := H1; clear H1
                    by_cases c14 : a0 = 32
                    · rw [if_pos c14] at H; have c14b0 : (a0 == 32) = true := beq_iff_eq.mpr c14; have c14b1 : (a0 != 32) = false := bne_eq_false_iff_eq.mpr c14; clear c14; obtain rfl := Option.some.inj H
                      go_wp2
                      go_ret; exact ⟨by rfl, by repeat (first | exact Drawn0.refl _ | apply Drawn0.step)⟩
                    · rw [if_neg c14] at H; have c14b0 : (a0 == 32) = false := beq_eq_false_iff_ne.mpr c14; have c14b1 : (a0 != 32) = true := bne_iff_ne.mpr c14
                      by_cases c15 : a0 = 9
                      · rw [if_pos c15] at H; have c15b0 : (a0 == 9) = true := beq_iff_eq.mpr c15; have c15b1 : (a0 != 9) = false := bne_eq_false_iff_eq.mpr c15; clear c15; obtain rfl := Option.some.inj H
                        go_wp2
                        go_ret; exact ⟨by rfl, by repeat (first | exact Drawn0.refl _ | apply Drawn0.step)⟩
                      · rw [if_neg c15] at H; have c15b0 : (a0 == 9) = false := beq_eq_false_iff_ne.mpr c15; have c15b1 : (a0 != 9) = true := bne_iff_ne.mpr c15
                        by_cases c16 : a0 = 10
                        · rw [if_pos c16] at H; have c16b0 : (a0 == 10) = true := beq_iff_eq.mpr c16; have c16b1 : (a0 != 10) = false := bne_eq_false_iff_eq.mpr c16; clear c16; obtain rfl := Option.some.inj H
                          go_wp2
                          go_ret; exact ⟨by rfl, by repeat (first | exact Drawn0.refl _ | apply Drawn0.step)⟩
                        · rw [if_neg c16] at H; have c16b0 : (a0 == 10) = false := beq_eq_false_iff_ne.mpr c16; have c16b1 : (a0 != 10) = true := bne_iff_ne.mpr c16
                          by_cases c17 : a0 = 13
                          · rw [if_pos c17] at H; have c17b0 : (a0 == 13) = true := beq_iff_eq.mpr c17; have c17b1 : (a0 != 13) = false := bne_eq_false_iff_eq.mpr c17; clear c17; obtain rfl := Option.some.inj H
                            go_wp2
                            go_ret; exact ⟨by rfl, by repeat (first | exact Drawn0.refl _ | apply Drawn0.step)⟩
                          · rw [if_neg c17] at H; have c17b0 : (a0 == 13) = false := beq_eq_false_iff_ne.mpr c17; have c17b1 : (a0 != 13) = true := bne_iff_ne.mpr c17; obtain rfl := Option.some.inj H
                            go_wp2
                            go_ret; exact ⟨by rfl, by repeat (first | exact Drawn0.refl _ | apply Drawn0.step)⟩
def term_is.f (k : Nat) (a0 : Int) (a1 : Int) : Option (Bool) := (term_classOf.f k a0).bind fun t113 => (some ((Go.bits .and .u8 t113 a1) != 0))
theorem term_is.mono : ∀ a0 a1 k, LeO (term_is.f k a0 a1) (term_is.f (k + 1) a0 a1) := by
  intro a0 a1 k; unfold term_is.f
  repeat' first
      | (with_reducible exact term_classOf.mono _ _)
      | (with_reducible exact LeO.refl _)
      | (with_reducible exact LeO.none _)
      | (with_reducible refine LeO.ite ?_ ?_)
      | (with_reducible refine LeO.bind ?_ (fun _ => ?_))
      | exact term_classOf.mono _ _
      | exact LeO.none _
      | refine LeO.ite ?_ ?_
      | refine LeO.bind ?_ (fun _ => ?_)
set_option maxHeartbeats 8000000 in
set_option maxRecDepth 100000 in
theorem term_is.calls (k : Nat) (a0 : Int) (a1 : Int) (r : Bool) (w : World) (h : term_is.f k a0 a1 = some r) :
    Calls Try.prog 98 #[.int .u8 a0, .int .u8 a1] w fun e w' => e = .returned (.bool r) ∧ Drawn0 w w' := by
  have H : ((term_classOf.f k a0).bind fun t113 => (some ((Go.bits .and .u8 t113 a1) != 0))) = some r := h; clear h; replace H := Option.bind_eq_some_iff.mp H; obtain ⟨t113, A30, H⟩ := H; replace H : (some ((Go.bits .and .u8 t113 a1) != 0)) = some r := H; have A3 := Aside0.mk A30; clear A30; obtain rfl := Option.some.inj H
  go_enter Try.func98, Try.ntmps98
  go_wp2_with (first | ((with_reducible refine q14 (f := 115) rfl ?_); refine goesL_ (some 6) rfl rfl Try.func115 (by kernel_rfl) rfl #[.int .u8 a0] rfl (by (try simp only [List.map_toArray, List.map_cons, List.map_nil]); rfl) ?_; (with_reducible refine (term_classOf.calls k a0 t113 _ A3.out).mono ?_); rintro e w' ⟨rfl, ⟨nd, rfl⟩⟩; refine ⟨_, rfl, ?_⟩))
  go_ret; exact ⟨by rfl, by repeat (first | exact Drawn0.refl _ | apply Drawn0.step)⟩
def term_every.l0 : Nat → ByteArray → Int → Int → Int → Option (Bool)
  | 0, _, _, _, _ => none
  | k + 1, x0, x1, x7, x8 => if x8 < x7 then (if 0 ≤ x8 then (if x8 < (x0.size : Int) then ((term_is.f k (bt x0 x8) x1).bind fun t114 => (if t114 = true then (term_every.l0 k x0 x1 x7 (wrap64 (x8 + 1))) else (some false))) else (none)) else (none)) else (some true)
def term_every.f (k : Nat) (a0 : ByteArray) (a1 : Int) : Option (Bool) := term_every.l0 k a0 a1 (a0.size : Int) 0
set_option maxHeartbeats 8000000 in
set_option maxRecDepth 100000 in
theorem term_every.calls (k : Nat) (a0 : ByteArray) (a1 : Int) (r : Bool) (w : World) (h : term_every.f k a0 a1 = some r) :
    Calls Try.prog 87 #[.string a0, .int .u8 a1] w fun e w' => e = .returned (.bool r) ∧ Drawn0 w w' := by
  have H : (term_every.l0 k a0 a1 (a0.size : Int) 0) = some r := h; clear h; have H' := Aside0.mk H; clear H
  go_enter Try.func87, Try.ntmps87
  go_wp2
  go_loopg [8] k (fun kq v8 w' => ∃ (x8_1 : Int), v8 = .int .i64 x8_1 ∧ Aside0 (term_every.l0 kq a0 a1 (a0.size : Int) x8_1 = some r) ∧ Aside0 (kq ≤ k) ∧ Drawn0 w w')
  case atStart => exact ⟨(0), (by rfl), H', ⟨Nat.le_refl _⟩, by repeat (exact Drawn0.refl _)⟩
  case round =>
    clear H'
    try clear p2
    obtain ⟨x8_1, rfl, HA, HK1, ⟨m1, rfl⟩⟩ := hrel
    cases gk with
    | zero => exact absurd HA.out (by simp [term_every.l0])
    | succ k1 =>
      have H := HA.out; clear HA; simp only [term_every.l0] at H
      by_cases c3 : x8_1 < (a0.size : Int)
      · rw [if_pos c3] at H; have c3b0 : decide (x8_1 < (a0.size : Int)) = true := decide_eq_true c3; clear c3
        by_cases c4 : 0 ≤ x8_1
        · rw [if_pos c4] at H; have c4b0 : decide (0 ≤ x8_1) = true := decide_eq_true c4; clear c4
          by_cases c5 : x8_1 < (a0.size : Int)
          · rw [if_pos c5] at H; have c5b0 : decide (x8_1 < (a0.size : Int)) = true := decide_eq_true c5; clear c5; replace H := Option.bind_eq_some_iff.mp H; obtain ⟨t114, A70, H⟩ := H; replace H : (if t114 = true then (term_every.l0 k1 a0 a1 (a0.size : Int) (wrap64 (x8_1 + 1))) else (some false)) = some r := H; have A7 := Aside0.mk A70; clear A70
            by_cases c8 : t114 = true
            · subst c8
              have H1 : (term_every.l0 k1 a0 a1 (a0.size : Int) (wrap64 (x8_1 + 1))) = some r := by rw [if_pos rfl] at H; exact H
              clear H; have H := H1; clear H1; have H' := Aside0.mk H; clear H; have p6 : 0 ≤ (x8_1 : Int) := of_decide_eq_true (by (with_reducible assumption)); have q6 : x8_1 < (a0.size : Int) := of_decide_eq_true (by (with_reducible assumption)); have hx6 := bt_at a0 x8_1; replace p6 := eq_true p6; replace q6 := eq_true q6
              go_wp2_with (first | ((with_reducible refine q14 (f := 98) rfl ?_); refine goesL_ (some 15) rfl rfl Try.func98 (by kernel_rfl) rfl #[.int .u8 (bt a0 x8_1), .int .u8 a1] rfl (by (try simp only [List.map_toArray, List.map_cons, List.map_nil]); rfl) ?_; (with_reducible refine (term_is.calls k1 (bt a0 x8_1) a1 true _ A7.out).mono ?_); rintro e w' ⟨rfl, ⟨nd, rfl⟩⟩; refine ⟨_, rfl, ?_⟩))
              go_roundg k1
              case measure => have := HK1.out; omega
              case rel => exact ⟨(wrap64 (x8_1 + 1)), (by rfl), H', ⟨by have := HK1.out; omega⟩, by repeat (first | exact Drawn0.refl _ | apply Drawn0.step)⟩
            · replace c8 := Bool.eq_false_iff.mpr c8; subst c8
              have H1 : (some false) = some r := by rw [if_neg (show ¬ (false = true) by decide)] at H; exact H
              clear H; have H := H1; clear H1; obtain rfl := Option.some.inj H; have p6 : 0 ≤ (x8_1 : Int) := of_decide_eq_true (by (with_reducible assumption)); have q6 : x8_1 < (a0.size : Int) := of_decide_eq_true (by (with_reducible assumption)); have hx6 := bt_at a0 x8_1; replace p6 := eq_true p6; replace q6 := eq_true q6
              go_wp2_with (first | ((with_reducible refine q14 (f := 98) rfl ?_); refine goesL_ (some 15) rfl rfl Try.func98 (by kernel_rfl) rfl #[.int .u8 (bt a0 x8_1), .int .u8 a1] rfl (by (try simp only [List.map_toArray, List.map_cons, List.map_nil]); rfl) ?_; (with_reducible refine (term_is.calls k1 (bt a0 x8_1) a1 false _ A7.out).mono ?_); rintro e w' ⟨rfl, ⟨nd, rfl⟩⟩; refine ⟨_, rfl, ?_⟩))
              go_ret; exact ⟨by rfl, by repeat (first | exact Drawn0.refl _ | apply Drawn0.step)⟩
          · rw [if_neg c5] at H; exact absurd H (by simp)
        · rw [if_neg c4] at H; exact absurd H (by simp)
      · rw [if_neg c3] at H; have c3b0 : decide (x8_1 < (a0.size : Int)) = false := decide_eq_false c3; clear c3; obtain rfl := Option.some.inj H
        go_wp2
        go_ret; exact ⟨by rfl, by repeat (first | exact Drawn0.refl _ | apply Drawn0.step)⟩
def term_identifier.f (k : Nat) (a0 : ByteArray) (a1 : Int) : Option (Bool) := if a0.toList = ([] : List UInt8) then (some false) else (if (a0.size : Int) ≤ a1 then (if 0 < (a0.size : Int) then ((term_is.f k (bt a0 0) 1).bind fun t115 => (if t115 = true then ((term_every.f k a0 4).bind fun t116 => (some t116)) else (some false))) else (none)) else (some false))
set_option maxHeartbeats 8000000 in
set_option maxRecDepth 100000 in
theorem term_identifier.calls (k : Nat) (a0 : ByteArray) (a1 : Int) (r : Bool) (w : World) (h : term_identifier.f k a0 a1 = some r) :
    Calls Try.prog 83 #[.string a0, .int .i64 a1] w fun e w' => e = .returned (.bool r) ∧ Drawn0 w w' := by
  have H : (if a0.toList = ([] : List UInt8) then (some false) else (if (a0.size : Int) ≤ a1 then (if 0 < (a0.size : Int) then ((term_is.f k (bt a0 0) 1).bind fun t115 => (if t115 = true then ((term_every.f k a0 4).bind fun t116 => (some t116)) else (some false))) else (none)) else (some false))) = some r := h; clear h
  by_cases c3 : a0.toList = ([] : List UInt8)
  · rw [if_pos c3] at H; have c3b0 : (a0.toList == ([] : List UInt8)) = true := beq_iff_eq.mpr c3; have c3b1 : (a0.toList != ([] : List UInt8)) = false := bne_eq_false_iff_eq.mpr c3; clear c3; obtain rfl := Option.some.inj H
    go_enter Try.func83, Try.ntmps83
    go_wp2
    go_ret; exact ⟨by rfl, by repeat (exact Drawn0.refl _)⟩
  · rw [if_neg c3] at H; have c3b0 : (a0.toList == ([] : List UInt8)) = false := beq_eq_false_iff_ne.mpr c3; have c3b1 : (a0.toList != ([] : List UInt8)) = true := bne_iff_ne.mpr c3
    by_cases c4 : (a0.size : Int) ≤ a1
    · rw [if_pos c4] at H; have c4b0 : decide ((a0.size : Int) ≤ a1) = true := decide_eq_true c4; clear c4
      by_cases c5 : 0 < (a0.size : Int)
      · rw [if_pos c5] at H; have c5b0 : decide (0 < (a0.size : Int)) = true := decide_eq_true c5; have c5b1 : decide (0 < a0.size) = true := decide_eq_true (by omega); clear c5; replace H := Option.bind_eq_some_iff.mp H; obtain ⟨t115, A70, H⟩ := H; replace H : (if t115 = true then ((term_every.f k a0 4).bind fun t116 => (some t116)) else (some false)) = some r := H; have A7 := Aside0.mk A70; clear A70
        by_cases c8 : t115 = true
        · subst c8
          have H1 : ((term_every.f k a0 4).bind fun t116 => (some t116)) = some r := by rw [if_pos rfl] at H; exact H
          clear H; have H := H1; clear H1; replace H := Option.bind_eq_some_iff.mp H; obtain ⟨t116, A90, H⟩ := H; replace H : (some t116) = some r := H; have A9 := Aside0.mk A90; clear A90; obtain rfl := Option.some.inj H; have p6 : 0 ≤ (0 : Int) := (by omega); have q6 : 0 < a0.size := (by have : (0 : Int) < (a0.size : Int) := of_decide_eq_true (by (with_reducible assumption)); omega); have hx6 : ∀ h : 0 < a0.size, ((a0[0]'h).toNat : Int) = bt a0 0 := bt_at a0 0; clear p6; have qi6 : (0 < (a0.size : Int)) = True := eq_true (of_decide_eq_true (by (with_reducible assumption))); replace q6 := eq_true q6
          go_enter Try.func83, Try.ntmps83
          go_wp2_with (first | (go_at_call 98; (with_reducible refine (term_is.calls k (bt a0 0) 1 true _ A7.out).mono ?_); rintro e w' ⟨rfl, ⟨nd, rfl⟩⟩) | (go_at_call 87; (with_reducible refine (term_every.calls k a0 4 t116 _ A9.out).mono ?_); rintro e w' ⟨rfl, ⟨nd, rfl⟩⟩))
          go_ret; exact ⟨by rfl, by repeat (first | exact Drawn0.refl _ | apply Drawn0.step)⟩
        · replace c8 := Bool.eq_false_iff.mpr c8; subst c8
          have H1 : (some false) = some r := by rw [if_neg (show ¬ (false = true) by decide)] at H; exact H
          clear H; have H := H1; clear H1; obtain rfl := Option.some.inj H; have p6 : 0 ≤ (0 : Int) := (by omega); have q6 : 0 < a0.size := (by have : (0 : Int) < (a0.size : Int) := of_decide_eq_true (by (with_reducible assumption)); omega); have hx6 : ∀ h : 0 < a0.size, ((a0[0]'h).toNat : Int) = bt a0 0 := bt_at a0 0; clear p6; have qi6 : (0 < (a0.size : Int)) = True := eq_true (of_decide_eq_true (by (with_reducible assumption))); replace q6 := eq_true q6
          go_enter Try.func83, Try.ntmps83
          go_wp2_with (first | (go_at_call 98; (with_reducible refine (term_is.calls k (bt a0 0) 1 false _ A7.out).mono ?_); rintro e w' ⟨rfl, ⟨nd, rfl⟩⟩))
          go_ret; exact ⟨by rfl, by repeat (first | exact Drawn0.refl _ | apply Drawn0.step)⟩
      · rw [if_neg c5] at H; exact absurd H (by simp)
    · rw [if_neg c4] at H; have c4b0 : decide ((a0.size : Int) ≤ a1) = false := decide_eq_false c4; clear c4; obtain rfl := Option.some.inj H
      go_enter Try.func83, Try.ntmps83
      go_wp2
      go_ret; exact ⟨by rfl, by repeat (exact Drawn0.refl _)⟩
end Go.Proofs.Ytnffhiiihegjbaa.MD
