/- Part of the walk: lemmas and printed functions that the claim uses (wip/tools/trim.py). -/
import Derived.Test.YtnffhiiihegjbaaFMDx0
import Derived.Test.YtnffhiiihegjbaaFMDx10
namespace Go.Proofs.Ytnffhiiihegjbaa.MD
open Go.RowKit Go.Proofs.YtnffhiiihegjbaaW.PrintWords Go.Proofs.YtnffhiiihegjbaaW.PrintLast Go.Proofs.YtnffhiiihegjbaaW.PrintMore
attribute [local go_sem] max2_int min2_int max_two min_two max_three min_three max_four min_four
set_option linter.unusedVariables false
set_option linter.unusedSimpArgs false
def chiasmusref01_IsVar.l0 : Nat → ByteArray → Int → Option (Bool)
  | 0, _, _ => none
  | k + 1, x0, x3 => if x3 < (x0.size : Int) then (if 0 ≤ x3 then ((chiasmusref01_Letter.f (bt x0 x3)).bind fun t263 => (if t263 = true then (chiasmusref01_IsVar.l0 k x0 (wrap64 (x3 + 1))) else ((chiasmusref01_Digit.f (bt x0 x3)).bind fun t264 => (if t264 = true then (chiasmusref01_IsVar.l0 k x0 (wrap64 (x3 + 1))) else (some false))))) else (none)) else (if x0.toList = ([] : List UInt8) then (some false) else (some (decide ((x0.size : Int) ≤ 40))))
def chiasmusref01_IsVar.f (k : Nat) (a0 : ByteArray) : Option (Bool) := chiasmusref01_IsVar.l0 k a0 0
set_option maxHeartbeats 8000000 in
set_option maxRecDepth 100000 in
theorem chiasmusref01_IsVar.calls (k : Nat) (a0 : ByteArray) (r : Bool) (w : World) (h : chiasmusref01_IsVar.f k a0 = some r) :
    Calls Try.prog 113 #[.string a0] w fun e w' => e = .returned (.bool r) ∧ Drawn0 w w' := by
  have H : (chiasmusref01_IsVar.l0 k a0 0) = some r := h; clear h; have H' := Aside0.mk H; clear H
  go_enter Try.func113, Try.ntmps113
  go_wp2
  go_loopg [3] k (fun kq v3 w' => ∃ (x3_1 : Int), v3 = .int .i64 x3_1 ∧ Aside0 (chiasmusref01_IsVar.l0 kq a0 x3_1 = some r) ∧ Aside0 (kq ≤ k) ∧ Drawn0 w w')
  case atStart => exact ⟨(0), (by rfl), H', ⟨Nat.le_refl _⟩, by repeat (exact Drawn0.refl _)⟩
  case round =>
    clear H'
    try clear c1
    obtain ⟨x3_1, rfl, HA, HK1, ⟨m1, rfl⟩⟩ := hrel
    cases gk with
    | zero => exact absurd HA.out (by simp [chiasmusref01_IsVar.l0])
    | succ k1 =>
      have H := HA.out; clear HA; simp only [chiasmusref01_IsVar.l0] at H
      by_cases c2 : x3_1 < (a0.size : Int)
      · rw [if_pos c2] at H; have c2b0 : decide (x3_1 < (a0.size : Int)) = true := decide_eq_true c2; clear c2
        by_cases c3 : 0 ≤ x3_1
        · rw [if_pos c3] at H; have c3b0 : decide (0 ≤ x3_1) = true := decide_eq_true c3; clear c3; replace H := Option.bind_eq_some_iff.mp H; obtain ⟨t263, A50, H⟩ := H; replace H : (if t263 = true then (chiasmusref01_IsVar.l0 k1 a0 (wrap64 (x3_1 + 1))) else ((chiasmusref01_Digit.f (bt a0 x3_1)).bind fun t264 => (if t264 = true then (chiasmusref01_IsVar.l0 k1 a0 (wrap64 (x3_1 + 1))) else (some false)))) = some r := H; have A5 := Aside0.mk A50; clear A50
          by_cases c6 : t263 = true
          · subst c6
            have H1 : (chiasmusref01_IsVar.l0 k1 a0 (wrap64 (x3_1 + 1))) = some r := by rw [if_pos rfl] at H; exact H
            clear H; have H := H1; clear H1; have H' := Aside0.mk H; clear H; have p4 : 0 ≤ (x3_1 : Int) := of_decide_eq_true (by (with_reducible assumption)); have q4 : x3_1 < (a0.size : Int) := of_decide_eq_true (by (with_reducible assumption)); have hx4 := bt_at a0 x3_1; replace p4 := eq_true p4; replace q4 := eq_true q4
            go_wp2_with (first | ((with_reducible refine q14 (f := 123) rfl ?_); refine goesL_ (some 13) rfl rfl Try.func123 (by kernel_rfl) rfl #[.int .u8 (bt a0 x3_1)] rfl (by (try simp only [List.map_toArray, List.map_cons, List.map_nil]); rfl) ?_; (with_reducible refine (chiasmusref01_Letter.calls (bt a0 x3_1) true _ A5.out).mono ?_); rintro e w' ⟨rfl, ⟨nd, rfl⟩⟩; refine ⟨_, rfl, ?_⟩))
            go_roundg k1
            case measure => have := HK1.out; omega
            case rel => exact ⟨(wrap64 (x3_1 + 1)), (by rfl), H', ⟨by have := HK1.out; omega⟩, by repeat (first | exact Drawn0.refl _ | apply Drawn0.step)⟩
          · replace c6 := Bool.eq_false_iff.mpr c6; subst c6
            have H1 : ((chiasmusref01_Digit.f (bt a0 x3_1)).bind fun t264 => (if t264 = true then (chiasmusref01_IsVar.l0 k1 a0 (wrap64 (x3_1 + 1))) else (some false))) = some r := by rw [if_neg (show ¬ (false = true) by decide)] at H; exact H
            clear H; have H := H1; clear H1; replace H := Option.bind_eq_some_iff.mp H; obtain ⟨t264, A80, H⟩ := H; replace H : (if t264 = true then (chiasmusref01_IsVar.l0 k1 a0 (wrap64 (x3_1 + 1))) else (some false)) = some r := H; have A8 := Aside0.mk A80; clear A80
            by_cases c9 : t264 = true
            · subst c9
              have H1 : (chiasmusref01_IsVar.l0 k1 a0 (wrap64 (x3_1 + 1))) = some r := by rw [if_pos rfl] at H; exact H
              clear H; have H := H1; clear H1; have H' := Aside0.mk H; clear H; have p4 : 0 ≤ (x3_1 : Int) := of_decide_eq_true (by (with_reducible assumption)); have q4 : x3_1 < (a0.size : Int) := of_decide_eq_true (by (with_reducible assumption)); have hx4 := bt_at a0 x3_1; replace p4 := eq_true p4; replace q4 := eq_true q4
              go_wp2_with (first | ((with_reducible refine q14 (f := 123) rfl ?_); refine goesL_ (some 13) rfl rfl Try.func123 (by kernel_rfl) rfl #[.int .u8 (bt a0 x3_1)] rfl (by (try simp only [List.map_toArray, List.map_cons, List.map_nil]); rfl) ?_; (with_reducible refine (chiasmusref01_Letter.calls (bt a0 x3_1) false _ A5.out).mono ?_); rintro e w' ⟨rfl, ⟨nd, rfl⟩⟩; refine ⟨_, rfl, ?_⟩; have p7 : 0 ≤ (x3_1 : Int) := of_decide_eq_true (by (with_reducible assumption)); have q7 : x3_1 < (a0.size : Int) := of_decide_eq_true (by (with_reducible assumption)); have hx7 := bt_at a0 x3_1; replace p7 := eq_true p7; replace q7 := eq_true q7) | (go_at_call 122; (with_reducible refine (chiasmusref01_Digit.calls (bt a0 x3_1) true _ A8.out).mono ?_); rintro e w' ⟨rfl, ⟨nd, rfl⟩⟩))
              go_roundg k1
              case measure => have := HK1.out; omega
              case rel => exact ⟨(wrap64 (x3_1 + 1)), (by rfl), H', ⟨by have := HK1.out; omega⟩, by repeat (first | exact Drawn0.refl _ | apply Drawn0.step)⟩
            · replace c9 := Bool.eq_false_iff.mpr c9; subst c9
              have H1 : (some false) = some r := by rw [if_neg (show ¬ (false = true) by decide)] at H; exact H
              clear H; have H := H1; clear H1; obtain rfl := Option.some.inj H; have p4 : 0 ≤ (x3_1 : Int) := of_decide_eq_true (by (with_reducible assumption)); have q4 : x3_1 < (a0.size : Int) := of_decide_eq_true (by (with_reducible assumption)); have hx4 := bt_at a0 x3_1; replace p4 := eq_true p4; replace q4 := eq_true q4
              go_wp2_with (first | ((with_reducible refine q14 (f := 123) rfl ?_); refine goesL_ (some 13) rfl rfl Try.func123 (by kernel_rfl) rfl #[.int .u8 (bt a0 x3_1)] rfl (by (try simp only [List.map_toArray, List.map_cons, List.map_nil]); rfl) ?_; (with_reducible refine (chiasmusref01_Letter.calls (bt a0 x3_1) false _ A5.out).mono ?_); rintro e w' ⟨rfl, ⟨nd, rfl⟩⟩; refine ⟨_, rfl, ?_⟩; have p7 : 0 ≤ (x3_1 : Int) := of_decide_eq_true (by (with_reducible assumption)); have q7 : x3_1 < (a0.size : Int) := of_decide_eq_true (by (with_reducible assumption)); have hx7 := bt_at a0 x3_1; replace p7 := eq_true p7; replace q7 := eq_true q7) | (go_at_call 122; (with_reducible refine (chiasmusref01_Digit.calls (bt a0 x3_1) false _ A8.out).mono ?_); rintro e w' ⟨rfl, ⟨nd, rfl⟩⟩))
              go_ret; exact ⟨by rfl, by repeat (first | exact Drawn0.refl _ | apply Drawn0.step)⟩
        · rw [if_neg c3] at H; exact absurd H (by simp)
      · rw [if_neg c2] at H; have c2b0 : decide (x3_1 < (a0.size : Int)) = false := decide_eq_false c2; clear c2
        by_cases c10 : a0.toList = ([] : List UInt8)
        · rw [if_pos c10] at H; have c10b0 : (a0.toList == ([] : List UInt8)) = true := beq_iff_eq.mpr c10; have c10b1 : (a0.toList != ([] : List UInt8)) = false := bne_eq_false_iff_eq.mpr c10; clear c10; obtain rfl := Option.some.inj H
          go_wp2
          go_ret; exact ⟨by rfl, by repeat (first | exact Drawn0.refl _ | apply Drawn0.step)⟩
        · rw [if_neg c10] at H; have c10b0 : (a0.toList == ([] : List UInt8)) = false := beq_eq_false_iff_ne.mpr c10; have c10b1 : (a0.toList != ([] : List UInt8)) = true := bne_iff_ne.mpr c10; obtain rfl := Option.some.inj H
          go_wp2
          go_ret; exact ⟨by rfl, by repeat (first | exact Drawn0.refl _ | apply Drawn0.step)⟩
def chiasmusref01_Inner.f (a0 : Int) : Option (Bool) := (chiasmusref01_Letter.f a0).bind fun t265 => (if t265 = true then (some true) else ((chiasmusref01_Digit.f a0).bind fun t266 => (if t266 = true then (some true) else (if a0 = 45 then (some true) else (some (a0 == 95))))))
set_option maxHeartbeats 8000000 in
set_option maxRecDepth 100000 in
theorem chiasmusref01_Inner.calls (a0 : Int) (r : Bool) (w : World) (h : chiasmusref01_Inner.f a0 = some r) :
    Calls Try.prog 124 #[.int .u8 a0] w fun e w' => e = .returned (.bool r) ∧ Drawn0 w w' := by
  have H : ((chiasmusref01_Letter.f a0).bind fun t265 => (if t265 = true then (some true) else ((chiasmusref01_Digit.f a0).bind fun t266 => (if t266 = true then (some true) else (if a0 = 45 then (some true) else (some (a0 == 95))))))) = some r := h; clear h; replace H := Option.bind_eq_some_iff.mp H; obtain ⟨t265, A20, H⟩ := H; replace H : (if t265 = true then (some true) else ((chiasmusref01_Digit.f a0).bind fun t266 => (if t266 = true then (some true) else (if a0 = 45 then (some true) else (some (a0 == 95)))))) = some r := H; have A2 := Aside0.mk A20; clear A20
  by_cases c3 : t265 = true
  · subst c3
    have H1 : (some true) = some r := by rw [if_pos rfl] at H; exact H
    clear H; have H := H1; clear H1; obtain rfl := Option.some.inj H
    go_enter Try.func124, Try.ntmps124
    go_wp2_with (first | ((with_reducible refine q14 (f := 123) rfl ?_); refine goesL_ (some 4) rfl rfl Try.func123 (by kernel_rfl) rfl #[.int .u8 a0] rfl (by (try simp only [List.map_toArray, List.map_cons, List.map_nil]); rfl) ?_; (with_reducible refine (chiasmusref01_Letter.calls a0 true _ A2.out).mono ?_); rintro e w' ⟨rfl, ⟨nd, rfl⟩⟩; refine ⟨_, rfl, ?_⟩))
    go_ret; exact ⟨by rfl, by repeat (first | exact Drawn0.refl _ | apply Drawn0.step)⟩
  · replace c3 := Bool.eq_false_iff.mpr c3; subst c3
    have H1 : ((chiasmusref01_Digit.f a0).bind fun t266 => (if t266 = true then (some true) else (if a0 = 45 then (some true) else (some (a0 == 95))))) = some r := by rw [if_neg (show ¬ (false = true) by decide)] at H; exact H
    clear H; have H := H1; clear H1; replace H := Option.bind_eq_some_iff.mp H; obtain ⟨t266, A40, H⟩ := H; replace H : (if t266 = true then (some true) else (if a0 = 45 then (some true) else (some (a0 == 95)))) = some r := H; have A4 := Aside0.mk A40; clear A40
    by_cases c5 : t266 = true
    · subst c5
      have H1 : (some true) = some r := by rw [if_pos rfl] at H; exact H
      clear H; have H := H1; clear H1; obtain rfl := Option.some.inj H
      go_enter Try.func124, Try.ntmps124
      go_wp2_with (first | ((with_reducible refine q14 (f := 123) rfl ?_); refine goesL_ (some 4) rfl rfl Try.func123 (by kernel_rfl) rfl #[.int .u8 a0] rfl (by (try simp only [List.map_toArray, List.map_cons, List.map_nil]); rfl) ?_; (with_reducible refine (chiasmusref01_Letter.calls a0 false _ A2.out).mono ?_); rintro e w' ⟨rfl, ⟨nd, rfl⟩⟩; refine ⟨_, rfl, ?_⟩) | (go_at_call 122; (with_reducible refine (chiasmusref01_Digit.calls a0 true _ A4.out).mono ?_); rintro e w' ⟨rfl, ⟨nd, rfl⟩⟩))
      go_ret; exact ⟨by rfl, by repeat (first | exact Drawn0.refl _ | apply Drawn0.step)⟩
    · replace c5 := Bool.eq_false_iff.mpr c5; subst c5
      have H1 : (if a0 = 45 then (some true) else (some (a0 == 95))) = some r := by rw [if_neg (show ¬ (false = true) by decide)] at H; exact H
      clear H; have H := H1; clear H1
      by_cases c6 : a0 = 45
      · rw [if_pos c6] at H; have c6b0 : (a0 == 45) = true := beq_iff_eq.mpr c6; have c6b1 : (a0 != 45) = false := bne_eq_false_iff_eq.mpr c6; clear c6; obtain rfl := Option.some.inj H
        go_enter Try.func124, Try.ntmps124
        go_wp2_with (first | ((with_reducible refine q14 (f := 123) rfl ?_); refine goesL_ (some 4) rfl rfl Try.func123 (by kernel_rfl) rfl #[.int .u8 a0] rfl (by (try simp only [List.map_toArray, List.map_cons, List.map_nil]); rfl) ?_; (with_reducible refine (chiasmusref01_Letter.calls a0 false _ A2.out).mono ?_); rintro e w' ⟨rfl, ⟨nd, rfl⟩⟩; refine ⟨_, rfl, ?_⟩) | (go_at_call 122; (with_reducible refine (chiasmusref01_Digit.calls a0 false _ A4.out).mono ?_); rintro e w' ⟨rfl, ⟨nd, rfl⟩⟩))
        go_ret; exact ⟨by rfl, by repeat (first | exact Drawn0.refl _ | apply Drawn0.step)⟩
      · rw [if_neg c6] at H; have c6b0 : (a0 == 45) = false := beq_eq_false_iff_ne.mpr c6; have c6b1 : (a0 != 45) = true := bne_iff_ne.mpr c6; obtain rfl := Option.some.inj H
        go_enter Try.func124, Try.ntmps124
        go_wp2_with (first | ((with_reducible refine q14 (f := 123) rfl ?_); refine goesL_ (some 4) rfl rfl Try.func123 (by kernel_rfl) rfl #[.int .u8 a0] rfl (by (try simp only [List.map_toArray, List.map_cons, List.map_nil]); rfl) ?_; (with_reducible refine (chiasmusref01_Letter.calls a0 false _ A2.out).mono ?_); rintro e w' ⟨rfl, ⟨nd, rfl⟩⟩; refine ⟨_, rfl, ?_⟩) | (go_at_call 122; (with_reducible refine (chiasmusref01_Digit.calls a0 false _ A4.out).mono ?_); rintro e w' ⟨rfl, ⟨nd, rfl⟩⟩))
        go_ret; exact ⟨by rfl, by repeat (first | exact Drawn0.refl _ | apply Drawn0.step)⟩
mutual
def chiasmusref01_IsName.j0 : Nat → ByteArray → Bool → Option (Bool)
  | 0, _, _ => none
  | k + 1, x0, x19 => if x19 = true then (some false) else (chiasmusref01_IsName.l0 k x0 0)
def chiasmusref01_IsName.l0 : Nat → ByteArray → Int → Option (Bool)
  | 0, _, _ => none
  | k + 1, x0, x5 => if x5 < (x0.size : Int) then (if 0 ≤ x5 then ((chiasmusref01_Inner.f (bt x0 x5)).bind fun t268 => (if t268 = true then (chiasmusref01_IsName.l0 k x0 (wrap64 (x5 + 1))) else (some false))) else (none)) else (some true)
end
def chiasmusref01_IsName.f (k : Nat) (a0 : ByteArray) (a1 : Int) : Option (Bool) := if a0.toList = ([] : List UInt8) then (chiasmusref01_IsName.j0 k a0 true) else (if (a0.size : Int) > a1 then (chiasmusref01_IsName.j0 k a0 true) else (if 0 < (a0.size : Int) then ((chiasmusref01_Letter.f (bt a0 0)).bind fun t267 => (chiasmusref01_IsName.j0 k a0 (!t267))) else (none)))
set_option maxHeartbeats 8000000 in
set_option maxRecDepth 100000 in
theorem chiasmusref01_IsName.calls (k : Nat) (a0 : ByteArray) (a1 : Int) (r : Bool) (w : World) (h : chiasmusref01_IsName.f k a0 a1 = some r) :
    Calls Try.prog 114 #[.string a0, .int .i64 a1] w fun e w' => e = .returned (.bool r) ∧ Drawn0 w w' := by
  have H : (if a0.toList = ([] : List UInt8) then (chiasmusref01_IsName.j0 k a0 true) else (if (a0.size : Int) > a1 then (chiasmusref01_IsName.j0 k a0 true) else (if 0 < (a0.size : Int) then ((chiasmusref01_Letter.f (bt a0 0)).bind fun t267 => (chiasmusref01_IsName.j0 k a0 (!t267))) else (none)))) = some r := h; clear h; have HC3 := Aside0.mk H; clear H
  go_enter Try.func114, Try.ntmps114
  go_upto_region 1 with (fail)
  go_cut [19] (fun v19 wc => ∃ (kq : Nat) (x19_2 : Bool), v19 = .bool x19_2 ∧ Aside0 (chiasmusref01_IsName.j0 kq a0 x19_2 = some r) ∧ Aside0 (kq ≤ k) ∧ Drawn0 w wc)
  case first =>
    have H := HC3.out; clear HC3
    by_cases c4 : a0.toList = ([] : List UInt8)
    · rw [if_pos c4] at H; have c4b0 : (a0.toList == ([] : List UInt8)) = true := beq_iff_eq.mpr c4; have c4b1 : (a0.toList != ([] : List UInt8)) = false := bne_eq_false_iff_eq.mpr c4; clear c4
      (skip)
      have H' := Aside0.mk H; clear H
      go_wp2
      go_meet
      case rel => exact ⟨_, (true), (by rfl), H', ⟨by omega⟩, by repeat (exact Drawn0.refl _)⟩
    · rw [if_neg c4] at H; have c4b0 : (a0.toList == ([] : List UInt8)) = false := beq_eq_false_iff_ne.mpr c4; have c4b1 : (a0.toList != ([] : List UInt8)) = true := bne_iff_ne.mpr c4
      (skip)
      by_cases c5 : (a0.size : Int) > a1
      · rw [if_pos c5] at H; have c5b0 : decide (a1 < (a0.size : Int)) = true := decide_eq_true c5; clear c5; have H' := Aside0.mk H; clear H
        go_wp2
        go_meet
        case rel => exact ⟨_, (true), (by rfl), H', ⟨by omega⟩, by repeat (exact Drawn0.refl _)⟩
      · rw [if_neg c5] at H; have c5b0 : decide (a1 < (a0.size : Int)) = false := decide_eq_false c5; clear c5
        by_cases c6 : 0 < (a0.size : Int)
        · rw [if_pos c6] at H; have c6b0 : decide (0 < (a0.size : Int)) = true := decide_eq_true c6; have c6b1 : decide (0 < a0.size) = true := decide_eq_true (by omega); clear c6; replace H := Option.bind_eq_some_iff.mp H; obtain ⟨t267, A80, H⟩ := H; replace H : (chiasmusref01_IsName.j0 k a0 (!t267)) = some r := H; have A8 := Aside0.mk A80; clear A80; have H' := Aside0.mk H; clear H; have p7 : 0 ≤ (0 : Int) := (by omega); have q7 : 0 < a0.size := (by have : (0 : Int) < (a0.size : Int) := of_decide_eq_true (by (with_reducible assumption)); omega); have hx7 : ∀ h : 0 < a0.size, ((a0[0]'h).toNat : Int) = bt a0 0 := bt_at a0 0; clear p7; have qi7 : (0 < (a0.size : Int)) = True := eq_true (of_decide_eq_true (by (with_reducible assumption))); replace q7 := eq_true q7
          go_wp2_with (first | (go_at_call 123; (with_reducible refine (chiasmusref01_Letter.calls (bt a0 0) t267 _ A8.out).mono ?_); rintro e w' ⟨rfl, ⟨nd, rfl⟩⟩))
          go_meet
          case rel => exact ⟨_, (!t267), (by rfl), H', ⟨by omega⟩, by repeat (first | exact Drawn0.refl _ | apply Drawn0.step)⟩
        · rw [if_neg c6] at H; exact absurd H (by simp)
  case rest =>
    clear HC3
    try clear c1
    try clear p2
    try clear c4
    try clear c4b0
    try clear c4b1
    try clear c5
    try clear c5b0
    try clear c6
    try clear c6b0
    try clear c6b1
    try clear p7
    try clear q7
    try clear hx7
    try clear qi7
    try clear p7
    try clear q7
    obtain ⟨kq, x19_2, rfl, HA, HJ2, ⟨mc2, rfl⟩⟩ := hcut
    cases kq with
    | zero => exact absurd HA.out (by simp [chiasmusref01_IsName.j0])
    | succ kj2 =>
      have H := HA.out; clear HA; simp only [chiasmusref01_IsName.j0] at H
      by_cases c9 : x19_2 = true
      · subst c9
        have H1 : (some false) = some r := by rw [if_pos rfl] at H; exact H
        clear H; have H := H1; clear H1; obtain rfl := Option.some.inj H
        go_wp2
        go_ret; exact ⟨by rfl, by repeat (first | exact Drawn0.refl _ | apply Drawn0.step)⟩
      · replace c9 := Bool.eq_false_iff.mpr c9; subst c9
        have H1 : (chiasmusref01_IsName.l0 kj2 a0 0) = some r := by rw [if_neg (show ¬ (false = true) by decide)] at H; exact H
        clear H; have H := H1; clear H1; have H' := Aside0.mk H; clear H
        go_wp2
        go_loopg [5] kj2 (fun kq v5 w' => ∃ (x5_2 : Int), v5 = .int .i64 x5_2 ∧ Aside0 (chiasmusref01_IsName.l0 kq a0 x5_2 = some r) ∧ Aside0 (kq ≤ kj2) ∧ Drawn0 w w')
        case atStart => exact ⟨(0), (by rfl), H', ⟨Nat.le_refl _⟩, by repeat (first | exact Drawn0.refl _ | apply Drawn0.step)⟩
        case round =>
          clear H'
          try clear c1
          try clear c2
          try clear p2
          try clear c4
          try clear c4b0
          try clear c4b1
          try clear c5
          try clear c5b0
          try clear c6
          try clear c6b0
          try clear c6b1
          try clear p7
          try clear q7
          try clear hx7
          try clear qi7
          try clear c9
          try clear p2
          try clear p7
          try clear q7
          obtain ⟨x5_2, rfl, HA, HK2, ⟨m2, rfl⟩⟩ := hrel
          cases gk with
          | zero => exact absurd HA.out (by simp [chiasmusref01_IsName.l0])
          | succ k2 =>
            have H := HA.out; clear HA; simp only [chiasmusref01_IsName.l0] at H
            by_cases c10 : x5_2 < (a0.size : Int)
            · rw [if_pos c10] at H; have c10b0 : decide (x5_2 < (a0.size : Int)) = true := decide_eq_true c10; clear c10
              by_cases c11 : 0 ≤ x5_2
              · rw [if_pos c11] at H; have c11b0 : decide (0 ≤ x5_2) = true := decide_eq_true c11; clear c11; replace H := Option.bind_eq_some_iff.mp H; obtain ⟨t268, A130, H⟩ := H; replace H : (if t268 = true then (chiasmusref01_IsName.l0 k2 a0 (wrap64 (x5_2 + 1))) else (some false)) = some r := H; have A13 := Aside0.mk A130; clear A130
                by_cases c14 : t268 = true
                · subst c14
                  have H1 : (chiasmusref01_IsName.l0 k2 a0 (wrap64 (x5_2 + 1))) = some r := by rw [if_pos rfl] at H; exact H
                  clear H; have H := H1; clear H1; have H' := Aside0.mk H; clear H; have p12 : 0 ≤ (x5_2 : Int) := of_decide_eq_true (by (with_reducible assumption)); have q12 : x5_2 < (a0.size : Int) := of_decide_eq_true (by (with_reducible assumption)); have hx12 := bt_at a0 x5_2; replace p12 := eq_true p12; replace q12 := eq_true q12
                  go_wp2_with (first | ((with_reducible refine q14 (f := 124) rfl ?_); refine goesL_ (some 29) rfl rfl Try.func124 (by kernel_rfl) rfl #[.int .u8 (bt a0 x5_2)] rfl (by (try simp only [List.map_toArray, List.map_cons, List.map_nil]); rfl) ?_; (with_reducible refine (chiasmusref01_Inner.calls (bt a0 x5_2) true _ A13.out).mono ?_); rintro e w' ⟨rfl, ⟨nd, rfl⟩⟩; refine ⟨_, rfl, ?_⟩))
                  go_roundg k2
                  case measure => have := HJ2.out; have := HK2.out; omega
                  case rel => exact ⟨(wrap64 (x5_2 + 1)), (by rfl), H', ⟨by have := HJ2.out; have := HK2.out; omega⟩, by repeat (first | exact Drawn0.refl _ | apply Drawn0.step)⟩
                · replace c14 := Bool.eq_false_iff.mpr c14; subst c14
                  have H1 : (some false) = some r := by rw [if_neg (show ¬ (false = true) by decide)] at H; exact H
                  clear H; have H := H1; clear H1; obtain rfl := Option.some.inj H; have p12 : 0 ≤ (x5_2 : Int) := of_decide_eq_true (by (with_reducible assumption)); have q12 : x5_2 < (a0.size : Int) := of_decide_eq_true (by (with_reducible assumption)); have hx12 := bt_at a0 x5_2; replace p12 := eq_true p12; replace q12 := eq_true q12
                  go_wp2_with (first | ((with_reducible refine q14 (f := 124) rfl ?_); refine goesL_ (some 29) rfl rfl Try.func124 (by kernel_rfl) rfl #[.int .u8 (bt a0 x5_2)] rfl (by (try simp only [List.map_toArray, List.map_cons, List.map_nil]); rfl) ?_; (with_reducible refine (chiasmusref01_Inner.calls (bt a0 x5_2) false _ A13.out).mono ?_); rintro e w' ⟨rfl, ⟨nd, rfl⟩⟩; refine ⟨_, rfl, ?_⟩))
                  go_ret; exact ⟨by rfl, by repeat (first | exact Drawn0.refl _ | apply Drawn0.step)⟩
              · rw [if_neg c11] at H; exact absurd H (by simp)
            · rw [if_neg c10] at H; have c10b0 : decide (x5_2 < (a0.size : Int)) = false := decide_eq_false c10; clear c10; obtain rfl := Option.some.inj H
              go_wp2
              go_ret; exact ⟨by rfl, by repeat (first | exact Drawn0.refl _ | apply Drawn0.step)⟩
end Go.Proofs.Ytnffhiiihegjbaa.MD
