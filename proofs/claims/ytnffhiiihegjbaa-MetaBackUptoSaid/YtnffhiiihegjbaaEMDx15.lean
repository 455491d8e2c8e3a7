/- Part of the walk: lemmas and printed functions that the claim uses (wip/tools/trim.py). -/
import Derived.Test.YtnffhiiihegjbaaEMDx0
import Derived.Test.YtnffhiiihegjbaaEMDx1
import Derived.Test.YtnffhiiihegjbaaEMDx6
import Derived.Test.YtnffhiiihegjbaaEMDx8
import Derived.Test.YtnffhiiihegjbaaEMDx10
import Derived.Test.YtnffhiiihegjbaaEMDx12
import Derived.Test.YtnffhiiihegjbaaEMDx14
namespace Go.Proofs.Ytnffhiiihegjbaa.MD
open Go.RowKit Go.Proofs.YtnffhiiihegjbaaW.PrintWords Go.Proofs.YtnffhiiihegjbaaW.PrintLast Go.Proofs.YtnffhiiihegjbaaW.PrintMore
attribute [local go_sem] max2_int min2_int max_two min_two max_three min_three max_four min_four
set_option linter.unusedVariables false
set_option linter.unusedSimpArgs false
def chiasmusref09_Dn.f (k : Nat) (l0 : List (S44)) : Option ((List (S44)) × Int) := (chiasmusref01_Value.f k l0).bind fun t330 => (if t330 = 0 then ((chiasmusref09_dn.f k l0).bind fun bt331 => (if bt331.2 = true then ((chiasmusref01_Result.f k bt331.1).bind fun t335 => (if t335 = 0 then (some (bt331.1, 0)) else (some (([] : List (S44)), 110)))) else (some (([] : List (S44)), 110)))) else (some (([] : List (S44)), t330)))
mutual
def chiasmuslaw09_starred.l0 : Nat → List (S44) → Int → Option (Bool)
  | 0, _, _ => none
  | k + 1, x0, x3 => if x3 < (x0.length : Int) then (if 0 ≤ x3 then (if ((rd_T44 x0 x3).f0) = 1 then (if ((rd_T44 x0 x3).f1).toList = ([42] : List UInt8) then (some true) else ((chiasmuslaw09_starred.f k ((rd_T44 x0 x3).f2)).bind fun t351 => (if t351 = true then (some true) else (chiasmuslaw09_starred.l0 k x0 (wrap64 (x3 + 1)))))) else ((chiasmuslaw09_starred.f k ((rd_T44 x0 x3).f2)).bind fun t353 => (if t353 = true then (some true) else (chiasmuslaw09_starred.l0 k x0 (wrap64 (x3 + 1)))))) else (none)) else (some false)
def chiasmuslaw09_starred.f : Nat → List (S44) → Option (Bool)
  | 0, _ => none
  | k + 1, l0 => chiasmuslaw09_starred.l0 k l0 0
end
set_option maxHeartbeats 8000000 in
set_option maxRecDepth 100000 in
theorem chiasmuslaw09_starred.calls (k : Nat) : ∀ (A0 : Option Addr) (c0 : Nat) (l0 : List (S44)) (r : Bool) (w : World) (hr0 : Kd.C k44 w A0 l0.length l0) (hc0 : l0.length ≤ c0) (h : chiasmuslaw09_starred.f k l0 = some r),
    Calls Try.prog 18 #[.slice A0 l0.length c0] w fun e w' => e = .returned (.bool r) ∧ Drawn0 w w' := by
  induction k using Nat.strongRecOn with
  | _ k ih =>
  intro A0 c0 l0 r w hr0 hc0 h
  cases k with
  | zero => exact absurd h (by simp [chiasmuslaw09_starred.f])
  | succ k =>
  simp only [chiasmuslaw09_starred.f] at h; have HR0 := Aside0.mk hr0; have HC0 := Aside0.mk hc0; clear hr0 hc0; have H : (chiasmuslaw09_starred.l0 k l0 0) = some r := h; clear h; have H' := Aside0.mk H; clear H
  go_enter Try.func18, Try.ntmps18
  go_wp2
  go_loopg [3] k (fun kq v3 w' => ∃ (x3_1 : Int), v3 = .int .i64 x3_1 ∧ Aside0 (chiasmuslaw09_starred.l0 kq l0 x3_1 = some r) ∧ Aside0 (kq ≤ k) ∧ Drawn0 w w')
  case atStart => exact ⟨(0), (by rfl), H', ⟨Nat.le_refl _⟩, by repeat (exact Drawn0.refl _)⟩
  case round =>
    clear H'
    try clear c1
    obtain ⟨x3_1, rfl, HA, HK1, ⟨m1, rfl⟩⟩ := hrel
    cases gk with
    | zero => exact absurd HA.out (by simp [chiasmuslaw09_starred.l0])
    | succ k1 =>
      have H := HA.out; clear HA; simp only [chiasmuslaw09_starred.l0] at H
      by_cases c2 : x3_1 < (l0.length : Int)
      · rw [if_pos c2] at H; have c2b0 : decide (x3_1 < (l0.length : Int)) = true := decide_eq_true c2; clear c2
        by_cases c3 : 0 ≤ x3_1
        · rw [if_pos c3] at H; have c3b0 : decide (0 ≤ x3_1) = true := decide_eq_true c3; clear c3
          by_cases c4 : ((rd_T44 l0 x3_1).f0) = 1
          · rw [if_pos c4] at H; have c4b0 : (((rd_T44 l0 x3_1).f0) == 1) = true := beq_iff_eq.mpr c4; have c4b1 : (((rd_T44 l0 x3_1).f0) != 1) = false := bne_eq_false_iff_eq.mpr c4; clear c4
            by_cases c5 : ((rd_T44 l0 x3_1).f1).toList = ([42] : List UInt8)
            · rw [if_pos c5] at H; have c5b0 : (((rd_T44 l0 x3_1).f1).toList == ([42] : List UInt8)) = true := beq_iff_eq.mpr c5; have c5b1 : (((rd_T44 l0 x3_1).f1).toList != ([42] : List UInt8)) = false := bne_eq_false_iff_eq.mpr c5; clear c5; obtain rfl := Option.some.inj H; have p348 : 0 ≤ (x3_1 : Int) := of_decide_eq_true (by (with_reducible assumption)); have q348 : x3_1 < (l0.length : Int) := of_decide_eq_true (by (with_reducible assumption)); obtain ⟨ad348, A348_2, c348_2, e348, hx348_0, hx348_1, hx348_2, hl348_2, hi348_2⟩ := at_T44 HR0.out x3_1 p348 q348; cases e348; have HR348_2 := Aside0.mk hi348_2; have HC348_2 := Aside0.mk hl348_2; clear hi348_2 hl348_2; replace p348 := eq_true p348; replace q348 := eq_true q348; have p349 : 0 ≤ (x3_1 : Int) := of_decide_eq_true (by (with_reducible assumption)); have q349 : x3_1 < (l0.length : Int) := of_decide_eq_true (by (with_reducible assumption)); obtain ⟨ad349, A349_2, c349_2, e349, hx349_0, hx349_1, hx349_2, hl349_2, hi349_2⟩ := at_T44 HR0.out x3_1 p349 q349; obtain rfl : ad348 = ad349 := (by injection e349); have HR349_2 := Aside0.mk hi349_2; have HC349_2 := Aside0.mk hl349_2; clear hi349_2 hl349_2; replace p349 := eq_true p349; replace q349 := eq_true q349; have ea_ := Option.some.inj (hx348_2.symm.trans hx349_2)
              injection ea_ with ea_ en_ ec_
              subst ea_; subst ec_; clear en_
              go_wp2
              go_ret; exact ⟨by rfl, by repeat (first | exact Drawn0.refl _ | apply Drawn0.step)⟩
            · rw [if_neg c5] at H; have c5b0 : (((rd_T44 l0 x3_1).f1).toList == ([42] : List UInt8)) = false := beq_eq_false_iff_ne.mpr c5; have c5b1 : (((rd_T44 l0 x3_1).f1).toList != ([42] : List UInt8)) = true := bne_iff_ne.mpr c5; replace H := Option.bind_eq_some_iff.mp H; obtain ⟨t351, A60, H⟩ := H; replace H : (if t351 = true then (some true) else (chiasmuslaw09_starred.l0 k1 l0 (wrap64 (x3_1 + 1)))) = some r := H; have A6 := Aside0.mk A60; clear A60
              by_cases c7 : t351 = true
              · subst c7
                have H1 : (some true) = some r := by rw [if_pos rfl] at H; exact H
                clear H; have H := H1; clear H1; obtain rfl := Option.some.inj H; have p348 : 0 ≤ (x3_1 : Int) := of_decide_eq_true (by (with_reducible assumption)); have q348 : x3_1 < (l0.length : Int) := of_decide_eq_true (by (with_reducible assumption)); obtain ⟨ad348, A348_2, c348_2, e348, hx348_0, hx348_1, hx348_2, hl348_2, hi348_2⟩ := at_T44 HR0.out x3_1 p348 q348; cases e348; have HR348_2 := Aside0.mk hi348_2; have HC348_2 := Aside0.mk hl348_2; clear hi348_2 hl348_2; replace p348 := eq_true p348; replace q348 := eq_true q348; have p349 : 0 ≤ (x3_1 : Int) := of_decide_eq_true (by (with_reducible assumption)); have q349 : x3_1 < (l0.length : Int) := of_decide_eq_true (by (with_reducible assumption)); obtain ⟨ad349, A349_2, c349_2, e349, hx349_0, hx349_1, hx349_2, hl349_2, hi349_2⟩ := at_T44 HR0.out x3_1 p349 q349; obtain rfl : ad348 = ad349 := (by injection e349); have HR349_2 := Aside0.mk hi349_2; have HC349_2 := Aside0.mk hl349_2; clear hi349_2 hl349_2; replace p349 := eq_true p349; replace q349 := eq_true q349; have ea_ := Option.some.inj (hx348_2.symm.trans hx349_2)
                injection ea_ with ea_ en_ ec_
                subst ea_; subst ec_; clear en_; have p350 : 0 ≤ (x3_1 : Int) := of_decide_eq_true (by (with_reducible assumption)); have q350 : x3_1 < (l0.length : Int) := of_decide_eq_true (by (with_reducible assumption)); obtain ⟨ad350, A350_2, c350_2, e350, hx350_0, hx350_1, hx350_2, hl350_2, hi350_2⟩ := at_T44 HR0.out x3_1 p350 q350; obtain rfl : ad348 = ad350 := (by injection e350); have HR350_2 := Aside0.mk hi350_2; have HC350_2 := Aside0.mk hl350_2; clear hi350_2 hl350_2; replace p350 := eq_true p350; replace q350 := eq_true q350; have ea_ := Option.some.inj (hx348_2.symm.trans hx350_2)
                injection ea_ with ea_ en_ ec_
                subst ea_; subst ec_; clear en_
                go_wp2_with (first | (go_at_call 18; (with_reducible refine (ih k1 (by have := HK1.out; omega) _ _ ((rd_T44 l0 x3_1).f2) true _ ?side1 ?side2 A6.out).mono ?_); (case side1 => repeat (first | exact HR350_2.out | (with_reducible refine Kd.C_drewN ?_ _))); (case side2 => exact HC350_2.out); rintro e w' ⟨rfl, ⟨nd, rfl⟩⟩))
                go_ret; exact ⟨by rfl, by repeat (first | exact Drawn0.refl _ | apply Drawn0.step)⟩
              · replace c7 := Bool.eq_false_iff.mpr c7; subst c7
                have H1 : (chiasmuslaw09_starred.l0 k1 l0 (wrap64 (x3_1 + 1))) = some r := by rw [if_neg (show ¬ (false = true) by decide)] at H; exact H
                clear H; have H := H1; clear H1; have H' := Aside0.mk H; clear H; have p348 : 0 ≤ (x3_1 : Int) := of_decide_eq_true (by (with_reducible assumption)); have q348 : x3_1 < (l0.length : Int) := of_decide_eq_true (by (with_reducible assumption)); obtain ⟨ad348, A348_2, c348_2, e348, hx348_0, hx348_1, hx348_2, hl348_2, hi348_2⟩ := at_T44 HR0.out x3_1 p348 q348; cases e348; have HR348_2 := Aside0.mk hi348_2; have HC348_2 := Aside0.mk hl348_2; clear hi348_2 hl348_2; replace p348 := eq_true p348; replace q348 := eq_true q348; have p349 : 0 ≤ (x3_1 : Int) := of_decide_eq_true (by (with_reducible assumption)); have q349 : x3_1 < (l0.length : Int) := of_decide_eq_true (by (with_reducible assumption)); obtain ⟨ad349, A349_2, c349_2, e349, hx349_0, hx349_1, hx349_2, hl349_2, hi349_2⟩ := at_T44 HR0.out x3_1 p349 q349; obtain rfl : ad348 = ad349 := (by injection e349); have HR349_2 := Aside0.mk hi349_2; have HC349_2 := Aside0.mk hl349_2; clear hi349_2 hl349_2; replace p349 := eq_true p349; replace q349 := eq_true q349; have ea_ := Option.some.inj (hx348_2.symm.trans hx349_2)
                injection ea_ with ea_ en_ ec_
                subst ea_; subst ec_; clear en_; have p350 : 0 ≤ (x3_1 : Int) := of_decide_eq_true (by (with_reducible assumption)); have q350 : x3_1 < (l0.length : Int) := of_decide_eq_true (by (with_reducible assumption)); obtain ⟨ad350, A350_2, c350_2, e350, hx350_0, hx350_1, hx350_2, hl350_2, hi350_2⟩ := at_T44 HR0.out x3_1 p350 q350; obtain rfl : ad348 = ad350 := (by injection e350); have HR350_2 := Aside0.mk hi350_2; have HC350_2 := Aside0.mk hl350_2; clear hi350_2 hl350_2; replace p350 := eq_true p350; replace q350 := eq_true q350; have ea_ := Option.some.inj (hx348_2.symm.trans hx350_2)
                injection ea_ with ea_ en_ ec_
                subst ea_; subst ec_; clear en_
                go_wp2_with (first | (go_at_call 18; (with_reducible refine (ih k1 (by have := HK1.out; omega) _ _ ((rd_T44 l0 x3_1).f2) false _ ?side1 ?side2 A6.out).mono ?_); (case side1 => repeat (first | exact HR350_2.out | (with_reducible refine Kd.C_drewN ?_ _))); (case side2 => exact HC350_2.out); rintro e w' ⟨rfl, ⟨nd, rfl⟩⟩))
                go_roundg k1
                case measure => have := HK1.out; omega
                case rel => exact ⟨(wrap64 (x3_1 + 1)), (by rfl), H', ⟨by have := HK1.out; omega⟩, by repeat (first | exact Drawn0.refl _ | apply Drawn0.step)⟩
          · rw [if_neg c4] at H; have c4b0 : (((rd_T44 l0 x3_1).f0) == 1) = false := beq_eq_false_iff_ne.mpr c4; have c4b1 : (((rd_T44 l0 x3_1).f0) != 1) = true := bne_iff_ne.mpr c4; replace H := Option.bind_eq_some_iff.mp H; obtain ⟨t353, A80, H⟩ := H; replace H : (if t353 = true then (some true) else (chiasmuslaw09_starred.l0 k1 l0 (wrap64 (x3_1 + 1)))) = some r := H; have A8 := Aside0.mk A80; clear A80
            by_cases c9 : t353 = true
            · subst c9
              have H1 : (some true) = some r := by rw [if_pos rfl] at H; exact H
              clear H; have H := H1; clear H1; obtain rfl := Option.some.inj H; have p348 : 0 ≤ (x3_1 : Int) := of_decide_eq_true (by (with_reducible assumption)); have q348 : x3_1 < (l0.length : Int) := of_decide_eq_true (by (with_reducible assumption)); obtain ⟨ad348, A348_2, c348_2, e348, hx348_0, hx348_1, hx348_2, hl348_2, hi348_2⟩ := at_T44 HR0.out x3_1 p348 q348; cases e348; have HR348_2 := Aside0.mk hi348_2; have HC348_2 := Aside0.mk hl348_2; clear hi348_2 hl348_2; replace p348 := eq_true p348; replace q348 := eq_true q348; have p352 : 0 ≤ (x3_1 : Int) := of_decide_eq_true (by (with_reducible assumption)); have q352 : x3_1 < (l0.length : Int) := of_decide_eq_true (by (with_reducible assumption)); obtain ⟨ad352, A352_2, c352_2, e352, hx352_0, hx352_1, hx352_2, hl352_2, hi352_2⟩ := at_T44 HR0.out x3_1 p352 q352; obtain rfl : ad348 = ad352 := (by injection e352); have HR352_2 := Aside0.mk hi352_2; have HC352_2 := Aside0.mk hl352_2; clear hi352_2 hl352_2; replace p352 := eq_true p352; replace q352 := eq_true q352; have ea_ := Option.some.inj (hx348_2.symm.trans hx352_2)
              injection ea_ with ea_ en_ ec_
              subst ea_; subst ec_; clear en_
              go_wp2_with (first | (go_at_call 18; (with_reducible refine (ih k1 (by have := HK1.out; omega) _ _ ((rd_T44 l0 x3_1).f2) true _ ?side1 ?side2 A8.out).mono ?_); (case side1 => repeat (first | exact HR352_2.out | (with_reducible refine Kd.C_drewN ?_ _))); (case side2 => exact HC352_2.out); rintro e w' ⟨rfl, ⟨nd, rfl⟩⟩))
              go_ret; exact ⟨by rfl, by repeat (first | exact Drawn0.refl _ | apply Drawn0.step)⟩
            · replace c9 := Bool.eq_false_iff.mpr c9; subst c9
              have H1 : (chiasmuslaw09_starred.l0 k1 l0 (wrap64 (x3_1 + 1))) = some r := by rw [if_neg (show ¬ (false = true) by decide)] at H; exact H
              clear H; have H := H1; clear H1; have H' := Aside0.mk H; clear H; have p348 : 0 ≤ (x3_1 : Int) := of_decide_eq_true (by (with_reducible assumption)); have q348 : x3_1 < (l0.length : Int) := of_decide_eq_true (by (with_reducible assumption)); obtain ⟨ad348, A348_2, c348_2, e348, hx348_0, hx348_1, hx348_2, hl348_2, hi348_2⟩ := at_T44 HR0.out x3_1 p348 q348; cases e348; have HR348_2 := Aside0.mk hi348_2; have HC348_2 := Aside0.mk hl348_2; clear hi348_2 hl348_2; replace p348 := eq_true p348; replace q348 := eq_true q348; have p352 : 0 ≤ (x3_1 : Int) := of_decide_eq_true (by (with_reducible assumption)); have q352 : x3_1 < (l0.length : Int) := of_decide_eq_true (by (with_reducible assumption)); obtain ⟨ad352, A352_2, c352_2, e352, hx352_0, hx352_1, hx352_2, hl352_2, hi352_2⟩ := at_T44 HR0.out x3_1 p352 q352; obtain rfl : ad348 = ad352 := (by injection e352); have HR352_2 := Aside0.mk hi352_2; have HC352_2 := Aside0.mk hl352_2; clear hi352_2 hl352_2; replace p352 := eq_true p352; replace q352 := eq_true q352; have ea_ := Option.some.inj (hx348_2.symm.trans hx352_2)
              injection ea_ with ea_ en_ ec_
              subst ea_; subst ec_; clear en_
              go_wp2_with (first | (go_at_call 18; (with_reducible refine (ih k1 (by have := HK1.out; omega) _ _ ((rd_T44 l0 x3_1).f2) false _ ?side1 ?side2 A8.out).mono ?_); (case side1 => repeat (first | exact HR352_2.out | (with_reducible refine Kd.C_drewN ?_ _))); (case side2 => exact HC352_2.out); rintro e w' ⟨rfl, ⟨nd, rfl⟩⟩))
              go_roundg k1
              case measure => have := HK1.out; omega
              case rel => exact ⟨(wrap64 (x3_1 + 1)), (by rfl), H', ⟨by have := HK1.out; omega⟩, by repeat (first | exact Drawn0.refl _ | apply Drawn0.step)⟩
        · rw [if_neg c3] at H; exact absurd H (by simp)
      · rw [if_neg c2] at H; have c2b0 : decide (x3_1 < (l0.length : Int)) = false := decide_eq_false c2; clear c2; obtain rfl := Option.some.inj H
        go_wp2
        go_ret; exact ⟨by rfl, by repeat (first | exact Drawn0.refl _ | apply Drawn0.step)⟩
end Go.Proofs.Ytnffhiiihegjbaa.MD
