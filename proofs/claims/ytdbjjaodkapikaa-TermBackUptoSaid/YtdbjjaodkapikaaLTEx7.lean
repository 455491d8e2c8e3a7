/- Part of the walk: lemmas and printed functions that the claim uses (wip/tools/trim.py). -/
import Derived.Test.YtdbjjaodkapikaaLTEx1
import Derived.Test.YtdbjjaodkapikaaLTEx6
namespace Go.Proofs.Ytdbjjaodkapikaa.TE
open Go.RowKit Go.Proofs.YtdbjjaodkapikaaW.PrintWords Go.Proofs.YtdbjjaodkapikaaW.PrintLast Go.Proofs.YtdbjjaodkapikaaW.PrintMore
attribute [local go_sem] max2_int min2_int max_two min_two max_three min_three max_four min_four
set_option linter.unusedVariables false
set_option linter.unusedSimpArgs false
mutual
def chiasmusref01_IsName.j0 : Nat → ByteArray → Bool → Option (Bool)
  | 0, _, _ => none
  | k + 1, x0, x19 => if x19 = true then (some false) else (chiasmusref01_IsName.l0 k x0 0)
def chiasmusref01_IsName.l0 : Nat → ByteArray → Int → Option (Bool)
  | 0, _, _ => none
  | k + 1, x0, x5 => if x5 < (x0.size : Int) then (if 0 ≤ x5 then ((chiasmusref01_Inner.f (bt x0 x5)).bind fun t225 => (if t225 = true then (chiasmusref01_IsName.l0 k x0 (wrap64 (x5 + 1))) else (some false))) else (none)) else (some true)
end
def chiasmusref01_IsName.f (k : Nat) (a0 : ByteArray) (a1 : Int) : Option (Bool) := if a0.toList = ([] : List UInt8) then (chiasmusref01_IsName.j0 k a0 true) else (if (a0.size : Int) > a1 then (chiasmusref01_IsName.j0 k a0 true) else (if 0 < (a0.size : Int) then ((chiasmusref01_Letter.f (bt a0 0)).bind fun t224 => (chiasmusref01_IsName.j0 k a0 (!t224))) else (none)))
set_option maxHeartbeats 8000000 in
set_option maxRecDepth 100000 in
theorem chiasmusref01_IsName.calls (k : Nat) (a0 : ByteArray) (a1 : Int) (r : Bool) (w : World) (h : chiasmusref01_IsName.f k a0 a1 = some r) :
    Calls Try.prog 116 #[.string a0, .int .i64 a1] w fun e w' => e = .returned (.bool r) ∧ Drawn0 w w' := by
  have H : (if a0.toList = ([] : List UInt8) then (chiasmusref01_IsName.j0 k a0 true) else (if (a0.size : Int) > a1 then (chiasmusref01_IsName.j0 k a0 true) else (if 0 < (a0.size : Int) then ((chiasmusref01_Letter.f (bt a0 0)).bind fun t224 => (chiasmusref01_IsName.j0 k a0 (!t224))) else (none)))) = some r := h; clear h; have HC3 := Aside0.mk H; clear H
  go_enter Try.func116, Try.ntmps116
  go_upto_region 1 with (fail)
  go_cut [19] (fun v19 wc => ∃ (kq : Nat) (x19_2 : Bool), v19 = .bool x19_2 ∧ Aside0 (chiasmusref01_IsName.j0 kq a0 x19_2 = some r) ∧ Aside0 (kq ≤ k) ∧ Drawn0 w wc)
  case first =>
    have H := HC3.out; clear HC3
    by_cases c4 : a0.toList = ([] : List UInt8)
    · rw [if_pos c4] at H; have c4b0 : (a0.toList == ([] : List UInt8)) = true := beq_iff_eq.mpr c4; have c4b1 : (a0.toList != ([] : List UInt8)) = false := bne_eq_false_iff_eq.mpr c4; clear c4
      (first | rw [c4b0] | (simp only [i64_w, i32_w]; rw [c4b0]) | skip)
      have H' := Aside0.mk H; clear H
      go_wp2
      go_meet
      case rel => exact ⟨_, (true), (by first | rfl | (simp; done) | (simp [*]; done)), H', ⟨by first | omega | exact Nat.le_refl _⟩, by repeat (first | exact Drawn0.refl _ | apply Drawn0.step)⟩
    · rw [if_neg c4] at H; have c4b0 : (a0.toList == ([] : List UInt8)) = false := beq_eq_false_iff_ne.mpr c4; have c4b1 : (a0.toList != ([] : List UInt8)) = true := bne_iff_ne.mpr c4
      (first | rw [c4b0] | (simp only [i64_w, i32_w]; rw [c4b0]) | skip)
      by_cases c5 : (a0.size : Int) > a1
      · rw [if_pos c5] at H; have c5b0 : decide (a1 < (a0.size : Int)) = true := decide_eq_true c5; clear c5; have H' := Aside0.mk H; clear H
        go_wp2
        go_meet
        case rel => exact ⟨_, (true), (by first | rfl | (simp; done) | (simp [*]; done)), H', ⟨by first | omega | exact Nat.le_refl _⟩, by repeat (first | exact Drawn0.refl _ | apply Drawn0.step)⟩
      · rw [if_neg c5] at H; have c5b0 : decide (a1 < (a0.size : Int)) = false := decide_eq_false c5; clear c5
        by_cases c6 : 0 < (a0.size : Int)
        · rw [if_pos c6] at H; have c6b0 : decide (0 < (a0.size : Int)) = true := decide_eq_true c6; have c6b1 : decide (0 < a0.size) = true := decide_eq_true (by omega); clear c6; replace H := Option.bind_eq_some_iff.mp H; obtain ⟨t224, A80, H⟩ := H; replace H : (chiasmusref01_IsName.j0 k a0 (!t224)) = some r := H; have A8 := Aside0.mk A80; clear A80; have H' := Aside0.mk H; clear H; have p7 : 0 ≤ (0 : Int) := (by omega); have q7 : 0 < a0.size := (by have : (0 : Int) < (a0.size : Int) := of_decide_eq_true (by first | (with_reducible assumption) | assumption); omega); have hx7 : ∀ h : 0 < a0.size, ((a0[0]'h).toNat : Int) = bt a0 0 := bt_at a0 0; clear p7; have qi7 : (0 < (a0.size : Int)) = True := eq_true (of_decide_eq_true (by first | (with_reducible assumption) | assumption)); replace q7 := eq_true q7
          go_wp2_with (first | (go_at_call 112; (with_reducible refine (chiasmusref01_Letter.calls (bt a0 0) t224 _ A8.out).mono ?_); rintro e w' ⟨rfl, ⟨nd, rfl⟩⟩))
          go_meet
          case rel => exact ⟨_, (!t224), (by first | rfl | (simp; done) | (simp [*]; done)), H', ⟨by first | omega | exact Nat.le_refl _⟩, by repeat (first | exact Drawn0.refl _ | apply Drawn0.step)⟩
        · rw [if_neg c6] at H; exact absurd H (by simp)
  case rest =>
    clear HC3
    try clear c1
    try clear p2
    try clear c4
    try clear c4b0
    try clear c4b1
    try clear c5
    try clear c5b0
    try clear c6
    try clear c6b0
    try clear c6b1
    try clear p7
    try clear q7
    try clear hx7
    try clear qi7
    try clear p7
    try clear q7
    obtain ⟨kq, x19_2, rfl, HA, HJ2, ⟨mc2, rfl⟩⟩ := hcut
    cases kq with
    | zero => exact absurd HA.out (by simp [chiasmusref01_IsName.j0])
    | succ kj2 =>
      have H := HA.out; clear HA; simp only [chiasmusref01_IsName.j0] at H
      by_cases c9 : x19_2 = true
      · subst c9
        have H1 : (some false) = some r := by rw [if_pos rfl] at H; exact H
        clear H; have H := H1; clear H1; obtain rfl := Option.some.inj H
        go_wp2
        go_ret; exact ⟨by first | rfl | (simp; done) | (simp [*]; done), by repeat (first | exact Drawn0.refl _ | apply Drawn0.step)⟩
      · replace c9 := Bool.eq_false_iff.mpr c9; subst c9
        have H1 : (chiasmusref01_IsName.l0 kj2 a0 0) = some r := by rw [if_neg (show ¬ (false = true) by decide)] at H; exact H
        clear H; have H := H1; clear H1; have H' := Aside0.mk H; clear H
        go_wp2
        go_loopg [5] kj2 (fun kq v5 w' => ∃ (x5_2 : Int), v5 = .int .i64 x5_2 ∧ Aside0 (chiasmusref01_IsName.l0 kq a0 x5_2 = some r) ∧ Aside0 (kq ≤ kj2) ∧ Drawn0 w w')
        case atStart => exact ⟨(0), (by first | rfl | (simp; done) | (simp [*]; done)), H', ⟨Nat.le_refl _⟩, by repeat (first | exact Drawn0.refl _ | apply Drawn0.step)⟩
        case round =>
          clear H'
          try clear c1
          try clear c2
          try clear p2
          try clear c4
          try clear c4b0
          try clear c4b1
          try clear c5
          try clear c5b0
          try clear c6
          try clear c6b0
          try clear c6b1
          try clear p7
          try clear q7
          try clear hx7
          try clear qi7
          try clear c9
          try clear p2
          try clear p7
          try clear q7
          obtain ⟨x5_2, rfl, HA, HK2, ⟨m2, rfl⟩⟩ := hrel
          cases gk with
          | zero => exact absurd HA.out (by simp [chiasmusref01_IsName.l0])
          | succ k2 =>
            have H := HA.out; clear HA; simp only [chiasmusref01_IsName.l0] at H
            by_cases c10 : x5_2 < (a0.size : Int)
            · rw [if_pos c10] at H; have c10b0 : decide (x5_2 < (a0.size : Int)) = true := decide_eq_true c10; clear c10
              by_cases c11 : 0 ≤ x5_2
              · rw [if_pos c11] at H; have c11b0 : decide (0 ≤ x5_2) = true := decide_eq_true c11; clear c11; replace H := Option.bind_eq_some_iff.mp H; obtain ⟨t225, A130, H⟩ := H; replace H : (if t225 = true then (chiasmusref01_IsName.l0 k2 a0 (wrap64 (x5_2 + 1))) else (some false)) = some r := H; have A13 := Aside0.mk A130; clear A130
                by_cases c14 : t225 = true
                · subst c14
                  have H1 : (chiasmusref01_IsName.l0 k2 a0 (wrap64 (x5_2 + 1))) = some r := by rw [if_pos rfl] at H; exact H
                  clear H; have H := H1; clear H1; have H' := Aside0.mk H; clear H; have p12 : 0 ≤ (x5_2 : Int) := of_decide_eq_true (by first | (with_reducible assumption) | assumption); have q12 : x5_2 < (a0.size : Int) := of_decide_eq_true (by first | (with_reducible assumption) | assumption); have hx12 := bt_at a0 x5_2; replace p12 := eq_true p12; replace q12 := eq_true q12
                  go_wp2_with (first | ((with_reducible refine q15 (f := 133) rfl ?_); refine goesL_ (some 29) rfl rfl Try.func133 (by kernel_rfl) rfl #[.int .u8 (bt a0 x5_2)] rfl (by (try simp only [List.map_toArray, List.map_cons, List.map_nil]); first | done | rfl | (simp only [List.length_drop, List.length_take]; rfl)) ?_; (with_reducible refine (chiasmusref01_Inner.calls (bt a0 x5_2) true _ A13.out).mono ?_); rintro e w' ⟨rfl, ⟨nd, rfl⟩⟩; refine ⟨_, rfl, ?_⟩))
                  go_roundg k2
                  case measure => have := HJ2.out; have := HK2.out; omega
                  case rel => exact ⟨(wrap64 (x5_2 + 1)), (by first | rfl | (simp; done) | (simp [*]; done)), H', ⟨by have := HJ2.out; have := HK2.out; omega⟩, by repeat (first | exact Drawn0.refl _ | apply Drawn0.step)⟩
                · replace c14 := Bool.eq_false_iff.mpr c14; subst c14
                  have H1 : (some false) = some r := by rw [if_neg (show ¬ (false = true) by decide)] at H; exact H
                  clear H; have H := H1; clear H1; obtain rfl := Option.some.inj H; have p12 : 0 ≤ (x5_2 : Int) := of_decide_eq_true (by first | (with_reducible assumption) | assumption); have q12 : x5_2 < (a0.size : Int) := of_decide_eq_true (by first | (with_reducible assumption) | assumption); have hx12 := bt_at a0 x5_2; replace p12 := eq_true p12; replace q12 := eq_true q12
                  go_wp2_with (first | ((with_reducible refine q15 (f := 133) rfl ?_); refine goesL_ (some 29) rfl rfl Try.func133 (by kernel_rfl) rfl #[.int .u8 (bt a0 x5_2)] rfl (by (try simp only [List.map_toArray, List.map_cons, List.map_nil]); first | done | rfl | (simp only [List.length_drop, List.length_take]; rfl)) ?_; (with_reducible refine (chiasmusref01_Inner.calls (bt a0 x5_2) false _ A13.out).mono ?_); rintro e w' ⟨rfl, ⟨nd, rfl⟩⟩; refine ⟨_, rfl, ?_⟩))
                  go_ret; exact ⟨by first | rfl | (simp; done) | (simp [*]; done), by repeat (first | exact Drawn0.refl _ | apply Drawn0.step)⟩
              · rw [if_neg c11] at H; exact absurd H (by simp)
            · rw [if_neg c10] at H; have c10b0 : decide (x5_2 < (a0.size : Int)) = false := decide_eq_false c10; clear c10; obtain rfl := Option.some.inj H
              go_wp2
              go_ret; exact ⟨by first | rfl | (simp; done) | (simp [*]; done), by repeat (first | exact Drawn0.refl _ | apply Drawn0.step)⟩
def chiasmusref01_IsWord.l0 : Nat → ByteArray → Int → Option (Bool)
  | 0, _, _ => none
  | k + 1, x0, x3 => if x3 < (x0.size : Int) then (if 0 ≤ x3 then (if (bt x0 x3) < 32 then (some false) else (if (bt x0 x3) > 126 then (some false) else (chiasmusref01_IsWord.l0 k x0 (wrap64 (x3 + 1))))) else (none)) else (if x0.toList = ([] : List UInt8) then (some false) else (some (decide ((x0.size : Int) ≤ 60))))
def chiasmusref01_IsWord.f (k : Nat) (a0 : ByteArray) : Option (Bool) := chiasmusref01_IsWord.l0 k a0 0
set_option maxHeartbeats 8000000 in
set_option maxRecDepth 100000 in
theorem chiasmusref01_IsWord.calls (k : Nat) (a0 : ByteArray) (r : Bool) (w : World) (h : chiasmusref01_IsWord.f k a0 = some r) :
    Calls Try.prog 123 #[.string a0] w fun e w' => e = .returned (.bool r) ∧ Drawn0 w w' := by
  have H : (chiasmusref01_IsWord.l0 k a0 0) = some r := h; clear h; have H' := Aside0.mk H; clear H
  go_enter Try.func123, Try.ntmps123
  go_wp2
  go_loopg [3] k (fun kq v3 w' => ∃ (x3_1 : Int), v3 = .int .i64 x3_1 ∧ Aside0 (chiasmusref01_IsWord.l0 kq a0 x3_1 = some r) ∧ Aside0 (kq ≤ k) ∧ Drawn0 w w')
  case atStart => exact ⟨(0), (by first | rfl | (simp; done) | (simp [*]; done)), H', ⟨Nat.le_refl _⟩, by repeat (first | exact Drawn0.refl _ | apply Drawn0.step)⟩
  case round =>
    clear H'
    try clear c1
    obtain ⟨x3_1, rfl, HA, HK1, ⟨m1, rfl⟩⟩ := hrel
    cases gk with
    | zero => exact absurd HA.out (by simp [chiasmusref01_IsWord.l0])
    | succ k1 =>
      have H := HA.out; clear HA; simp only [chiasmusref01_IsWord.l0] at H
      by_cases c2 : x3_1 < (a0.size : Int)
      · rw [if_pos c2] at H; have c2b0 : decide (x3_1 < (a0.size : Int)) = true := decide_eq_true c2; clear c2
        by_cases c3 : 0 ≤ x3_1
        · rw [if_pos c3] at H; have c3b0 : decide (0 ≤ x3_1) = true := decide_eq_true c3; clear c3
          by_cases c5 : (bt a0 x3_1) < 32
          · rw [if_pos c5] at H; have c5b0 : decide ((bt a0 x3_1) < 32) = true := decide_eq_true c5; clear c5; obtain rfl := Option.some.inj H; have p4 : 0 ≤ (x3_1 : Int) := of_decide_eq_true (by first | (with_reducible assumption) | assumption); have q4 : x3_1 < (a0.size : Int) := of_decide_eq_true (by first | (with_reducible assumption) | assumption); have hx4 := bt_at a0 x3_1; replace p4 := eq_true p4; replace q4 := eq_true q4
            go_wp2
            go_ret; exact ⟨by first | rfl | (simp; done) | (simp [*]; done), by repeat (first | exact Drawn0.refl _ | apply Drawn0.step)⟩
          · rw [if_neg c5] at H; have c5b0 : decide ((bt a0 x3_1) < 32) = false := decide_eq_false c5; clear c5
            by_cases c7 : (bt a0 x3_1) > 126
            · rw [if_pos c7] at H; have c7b0 : decide (126 < (bt a0 x3_1)) = true := decide_eq_true c7; clear c7; obtain rfl := Option.some.inj H; have p4 : 0 ≤ (x3_1 : Int) := of_decide_eq_true (by first | (with_reducible assumption) | assumption); have q4 : x3_1 < (a0.size : Int) := of_decide_eq_true (by first | (with_reducible assumption) | assumption); have hx4 := bt_at a0 x3_1; replace p4 := eq_true p4; replace q4 := eq_true q4; have p6 : 0 ≤ (x3_1 : Int) := of_decide_eq_true (by first | (with_reducible assumption) | assumption); have q6 : x3_1 < (a0.size : Int) := of_decide_eq_true (by first | (with_reducible assumption) | assumption); have hx6 := bt_at a0 x3_1; replace p6 := eq_true p6; replace q6 := eq_true q6
              go_wp2
              go_ret; exact ⟨by first | rfl | (simp; done) | (simp [*]; done), by repeat (first | exact Drawn0.refl _ | apply Drawn0.step)⟩
            · rw [if_neg c7] at H; have c7b0 : decide (126 < (bt a0 x3_1)) = false := decide_eq_false c7; clear c7; have H' := Aside0.mk H; clear H; have p4 : 0 ≤ (x3_1 : Int) := of_decide_eq_true (by first | (with_reducible assumption) | assumption); have q4 : x3_1 < (a0.size : Int) := of_decide_eq_true (by first | (with_reducible assumption) | assumption); have hx4 := bt_at a0 x3_1; replace p4 := eq_true p4; replace q4 := eq_true q4; have p6 : 0 ≤ (x3_1 : Int) := of_decide_eq_true (by first | (with_reducible assumption) | assumption); have q6 : x3_1 < (a0.size : Int) := of_decide_eq_true (by first | (with_reducible assumption) | assumption); have hx6 := bt_at a0 x3_1; replace p6 := eq_true p6; replace q6 := eq_true q6
              go_wp2
              go_roundg k1
              case measure => have := HK1.out; omega
              case rel => exact ⟨(wrap64 (x3_1 + 1)), (by first | rfl | (simp; done) | (simp [*]; done)), H', ⟨by have := HK1.out; omega⟩, by repeat (first | exact Drawn0.refl _ | apply Drawn0.step)⟩
        · rw [if_neg c3] at H; exact absurd H (by simp)
      · rw [if_neg c2] at H; have c2b0 : decide (x3_1 < (a0.size : Int)) = false := decide_eq_false c2; clear c2
        by_cases c8 : a0.toList = ([] : List UInt8)
        · rw [if_pos c8] at H; have c8b0 : (a0.toList == ([] : List UInt8)) = true := beq_iff_eq.mpr c8; have c8b1 : (a0.toList != ([] : List UInt8)) = false := bne_eq_false_iff_eq.mpr c8; clear c8; obtain rfl := Option.some.inj H
          go_wp2
          go_ret; exact ⟨by first | rfl | (simp; done) | (simp [*]; done), by repeat (first | exact Drawn0.refl _ | apply Drawn0.step)⟩
        · rw [if_neg c8] at H; have c8b0 : (a0.toList == ([] : List UInt8)) = false := beq_eq_false_iff_ne.mpr c8; have c8b1 : (a0.toList != ([] : List UInt8)) = true := bne_iff_ne.mpr c8; obtain rfl := Option.some.inj H
          go_wp2
          go_ret; exact ⟨by first | rfl | (simp; done) | (simp [*]; done), by repeat (first | exact Drawn0.refl _ | apply Drawn0.step)⟩
mutual
def chiasmusref01_IsNumber.j0 : Nat → ByteArray → Bool → Option (Bool)
  | 0, _, _ => none
  | k + 1, x0, x12 => if x12 = true then (if 1 ≤ (x0.size : Int) then (chiasmusref01_IsNumber.j1 k (x0.extract 1 x0.size)) else (none)) else (chiasmusref01_IsNumber.j1 k x0)
def chiasmusref01_IsNumber.j1 : Nat → ByteArray → Option (Bool)
  | 0, _ => none
  | k + 1, x0 => chiasmusref01_IsNumber.l0 k x0 0
def chiasmusref01_IsNumber.l0 : Nat → ByteArray → Int → Option (Bool)
  | 0, _, _ => none
  | k + 1, x0, x3 => if x3 < (x0.size : Int) then (if 0 ≤ x3 then ((chiasmusref01_Digit.f (bt x0 x3)).bind fun t226 => (if t226 = true then (chiasmusref01_IsNumber.l0 k x0 (wrap64 (x3 + 1))) else (some false))) else (none)) else (if x0.toList = ([] : List UInt8) then (some false) else (if (x0.size : Int) ≤ 500 then (if 0 < (x0.size : Int) then (some ((bt x0 0) != 48)) else (none)) else (some false)))
end
def chiasmusref01_IsNumber.f (k : Nat) (a0 : ByteArray) : Option (Bool) := if a0.toList = ([48] : List UInt8) then (some true) else (if a0.toList = ([] : List UInt8) then (chiasmusref01_IsNumber.j0 k a0 false) else (if 0 < (a0.size : Int) then (chiasmusref01_IsNumber.j0 k a0 ((bt a0 0) == 45)) else (none)))
set_option maxHeartbeats 8000000 in
set_option maxRecDepth 100000 in
theorem chiasmusref01_IsNumber.calls (k : Nat) (a0 : ByteArray) (r : Bool) (w : World) (h : chiasmusref01_IsNumber.f k a0 = some r) :
    Calls Try.prog 125 #[.string a0] w fun e w' => e = .returned (.bool r) ∧ Drawn0 w w' := by
  have H : (if a0.toList = ([48] : List UInt8) then (some true) else (if a0.toList = ([] : List UInt8) then (chiasmusref01_IsNumber.j0 k a0 false) else (if 0 < (a0.size : Int) then (chiasmusref01_IsNumber.j0 k a0 ((bt a0 0) == 45)) else (none)))) = some r := h; clear h
  by_cases c2 : a0.toList = ([48] : List UInt8)
  · rw [if_pos c2] at H; have c2b0 : (a0.toList == ([48] : List UInt8)) = true := beq_iff_eq.mpr c2; have c2b1 : (a0.toList != ([48] : List UInt8)) = false := bne_eq_false_iff_eq.mpr c2; clear c2; obtain rfl := Option.some.inj H
    go_enter Try.func125, Try.ntmps125
    go_wp2
    go_ret; exact ⟨by first | rfl | (simp; done) | (simp [*]; done), by repeat (first | exact Drawn0.refl _ | apply Drawn0.step)⟩
  · rw [if_neg c2] at H; have c2b0 : (a0.toList == ([48] : List UInt8)) = false := beq_eq_false_iff_ne.mpr c2; have c2b1 : (a0.toList != ([48] : List UInt8)) = true := bne_iff_ne.mpr c2; have HC3 := Aside0.mk H; clear H
    go_enter Try.func125, Try.ntmps125
    go_upto_region 3 with (fail)
    go_cut [12] (fun v12 wc => ∃ (kq : Nat) (x12_2 : Bool), v12 = .bool x12_2 ∧ Aside0 (chiasmusref01_IsNumber.j0 kq a0 x12_2 = some r) ∧ Aside0 (kq ≤ k) ∧ Drawn0 w wc)
    case first =>
      have H := HC3.out; clear HC3
      by_cases c4 : a0.toList = ([] : List UInt8)
      · rw [if_pos c4] at H; have c4b0 : (a0.toList == ([] : List UInt8)) = true := beq_iff_eq.mpr c4; have c4b1 : (a0.toList != ([] : List UInt8)) = false := bne_eq_false_iff_eq.mpr c4; clear c4
        (first | rw [c4b0] | (simp only [i64_w, i32_w]; rw [c4b0]) | skip)
        have H' := Aside0.mk H; clear H
        go_wp2
        go_meet
        case rel => exact ⟨_, (false), (by first | rfl | (simp; done) | (simp [*]; done)), H', ⟨by first | omega | exact Nat.le_refl _⟩, by repeat (first | exact Drawn0.refl _ | apply Drawn0.step)⟩
      · rw [if_neg c4] at H; have c4b0 : (a0.toList == ([] : List UInt8)) = false := beq_eq_false_iff_ne.mpr c4; have c4b1 : (a0.toList != ([] : List UInt8)) = true := bne_iff_ne.mpr c4
        (first | rw [c4b0] | (simp only [i64_w, i32_w]; rw [c4b0]) | skip)
        by_cases c5 : 0 < (a0.size : Int)
        · rw [if_pos c5] at H; have c5b0 : decide (0 < (a0.size : Int)) = true := decide_eq_true c5; have c5b1 : decide (0 < a0.size) = true := decide_eq_true (by omega); clear c5; have H' := Aside0.mk H; clear H; have p6 : 0 ≤ (0 : Int) := (by omega); have q6 : 0 < a0.size := (by have : (0 : Int) < (a0.size : Int) := of_decide_eq_true (by first | (with_reducible assumption) | assumption); omega); have hx6 : ∀ h : 0 < a0.size, ((a0[0]'h).toNat : Int) = bt a0 0 := bt_at a0 0; clear p6; have qi6 : (0 < (a0.size : Int)) = True := eq_true (of_decide_eq_true (by first | (with_reducible assumption) | assumption)); replace q6 := eq_true q6
          go_wp2
          go_meet
          case rel => exact ⟨_, (((bt a0 0) == 45)), (by first | rfl | (simp; done) | (simp [*]; done)), H', ⟨by first | omega | exact Nat.le_refl _⟩, by repeat (first | exact Drawn0.refl _ | apply Drawn0.step)⟩
        · rw [if_neg c5] at H; exact absurd H (by simp)
    case rest =>
      clear HC3
      try clear c1
      try clear c2
      try clear c2b0
      try clear c2b1
      try clear p2
      try clear c4
      try clear c4b0
      try clear c4b1
      try clear c5
      try clear c5b0
      try clear c5b1
      try clear p6
      try clear q6
      try clear hx6
      try clear qi6
      try clear p6
      try clear q6
      obtain ⟨kq, x12_2, rfl, HA, HJ2, ⟨mc2, rfl⟩⟩ := hcut
      cases kq with
      | zero => exact absurd HA.out (by simp [chiasmusref01_IsNumber.j0])
      | succ kj2 =>
        have H := HA.out; clear HA; simp only [chiasmusref01_IsNumber.j0] at H; have HC7 := Aside0.mk H; clear H
        go_upto_if 12 with (fail)
        go_cut [0] (fun v0 wc => ∃ (kq : Nat) (x0_6 : ByteArray), v0 = .string x0_6 ∧ Aside0 (chiasmusref01_IsNumber.j1 kq x0_6 = some r) ∧ Aside0 (kq ≤ kj2) ∧ Drawn0 w wc)
        case first =>
          have H := HC7.out; clear HC7
          by_cases c8 : x12_2 = true
          · subst c8
            have H1 : (if 1 ≤ (a0.size : Int) then (chiasmusref01_IsNumber.j1 kj2 (a0.extract 1 a0.size)) else (none)) = some r := by rw [if_pos rfl] at H; exact H
            clear H; have H := H1; clear H1
            by_cases c9 : 1 ≤ (a0.size : Int)
            · rw [if_pos c9] at H; have c9b0 := eq_true c9; have c9b1 : decide (1 ≤ (a0.size : Int)) = true := decide_eq_true c9; clear c9; have H' := Aside0.mk H; clear H
              go_wp2
              go_meet
              case rel => exact ⟨_, (a0.extract 1 a0.size), (by first | rfl | (simp; done) | (simp [*]; done)), H', ⟨by have := HJ2.out; first | omega | exact Nat.le_refl _⟩, by repeat (first | exact Drawn0.refl _ | apply Drawn0.step)⟩
            · rw [if_neg c9] at H; exact absurd H (by simp)
          · replace c8 := Bool.eq_false_iff.mpr c8; subst c8
            have H1 : (chiasmusref01_IsNumber.j1 kj2 a0) = some r := by rw [if_neg (show ¬ (false = true) by decide)] at H; exact H
            clear H; have H := H1; clear H1; have H' := Aside0.mk H; clear H
            go_wp2
            go_meet
            case rel => exact ⟨_, (a0), (by first | rfl | (simp; done) | (simp [*]; done)), H', ⟨by have := HJ2.out; first | omega | exact Nat.le_refl _⟩, by repeat (first | exact Drawn0.refl _ | apply Drawn0.step)⟩
        case rest =>
          clear HC7
          try clear c1
          try clear c2
          try clear c2b0
          try clear c2b1
          try clear p2
          try clear c4
          try clear c4b0
          try clear c4b1
          try clear c5
          try clear c5b0
          try clear c5b1
          try clear p6
          try clear q6
          try clear hx6
          try clear qi6
          try clear c8
          try clear c9
          try clear c9b0
          try clear c9b1
          try clear p2
          try clear p6
          try clear q6
          obtain ⟨kq, x0_6, rfl, HA, HJ6, ⟨mc6, rfl⟩⟩ := hcut
          cases kq with
          | zero => exact absurd HA.out (by simp [chiasmusref01_IsNumber.j1])
          | succ kj6 =>
            have H := HA.out; clear HA; simp only [chiasmusref01_IsNumber.j1] at H; have H' := Aside0.mk H; clear H
            go_wp2
            go_loopg [3] kj6 (fun kq v3 w' => ∃ (x3_3 : Int), v3 = .int .i64 x3_3 ∧ Aside0 (chiasmusref01_IsNumber.l0 kq x0_6 x3_3 = some r) ∧ Aside0 (kq ≤ kj6) ∧ Drawn0 w w')
            case atStart => exact ⟨(0), (by first | rfl | (simp; done) | (simp [*]; done)), H', ⟨Nat.le_refl _⟩, by repeat (first | exact Drawn0.refl _ | apply Drawn0.step)⟩
            case round =>
              clear H'
              try clear c1
              try clear c2
              try clear c2b0
              try clear c2b1
              try clear p2
              try clear c4
              try clear c4b0
              try clear c4b1
              try clear c5
              try clear c5b0
              try clear c5b1
              try clear c6
              try clear p6
              try clear q6
              try clear hx6
              try clear qi6
              try clear c8
              try clear c9
              try clear c9b0
              try clear c9b1
              try clear p2
              try clear p6
              try clear q6
              obtain ⟨x3_3, rfl, HA, HK3, ⟨m3, rfl⟩⟩ := hrel
              cases gk with
              | zero => exact absurd HA.out (by simp [chiasmusref01_IsNumber.l0])
              | succ k3 =>
                have H := HA.out; clear HA; simp only [chiasmusref01_IsNumber.l0] at H
                by_cases c10 : x3_3 < (x0_6.size : Int)
                · rw [if_pos c10] at H; have c10b0 : decide (x3_3 < (x0_6.size : Int)) = true := decide_eq_true c10; clear c10
                  by_cases c11 : 0 ≤ x3_3
                  · rw [if_pos c11] at H; have c11b0 : decide (0 ≤ x3_3) = true := decide_eq_true c11; clear c11; replace H := Option.bind_eq_some_iff.mp H; obtain ⟨t226, A130, H⟩ := H; replace H : (if t226 = true then (chiasmusref01_IsNumber.l0 k3 x0_6 (wrap64 (x3_3 + 1))) else (some false)) = some r := H; have A13 := Aside0.mk A130; clear A130
                    by_cases c14 : t226 = true
                    · subst c14
                      have H1 : (chiasmusref01_IsNumber.l0 k3 x0_6 (wrap64 (x3_3 + 1))) = some r := by rw [if_pos rfl] at H; exact H
                      clear H; have H := H1; clear H1; have H' := Aside0.mk H; clear H; have p12 : 0 ≤ (x3_3 : Int) := of_decide_eq_true (by first | (with_reducible assumption) | assumption); have q12 : x3_3 < (x0_6.size : Int) := of_decide_eq_true (by first | (with_reducible assumption) | assumption); have hx12 := bt_at x0_6 x3_3; replace p12 := eq_true p12; replace q12 := eq_true q12
                      go_wp2_with (first | ((with_reducible refine q15 (f := 113) rfl ?_); refine goesL_ (some 24) rfl rfl Try.func113 (by kernel_rfl) rfl #[.int .u8 (bt x0_6 x3_3)] rfl (by (try simp only [List.map_toArray, List.map_cons, List.map_nil]); first | done | rfl | (simp only [List.length_drop, List.length_take]; rfl)) ?_; (with_reducible refine (chiasmusref01_Digit.calls (bt x0_6 x3_3) true _ A13.out).mono ?_); rintro e w' ⟨rfl, ⟨nd, rfl⟩⟩; refine ⟨_, rfl, ?_⟩))
                      go_roundg k3
                      case measure => have := HJ2.out; have := HJ6.out; have := HK3.out; omega
                      case rel => exact ⟨(wrap64 (x3_3 + 1)), (by first | rfl | (simp; done) | (simp [*]; done)), H', ⟨by have := HJ2.out; have := HJ6.out; have := HK3.out; omega⟩, by repeat (first | exact Drawn0.refl _ | apply Drawn0.step)⟩
                    · replace c14 := Bool.eq_false_iff.mpr c14; subst c14
                      have H1 : (some false) = some r := by rw [if_neg (show ¬ (false = true) by decide)] at H; exact H
                      clear H; have H := H1; clear H1; obtain rfl := Option.some.inj H; have p12 : 0 ≤ (x3_3 : Int) := of_decide_eq_true (by first | (with_reducible assumption) | assumption); have q12 : x3_3 < (x0_6.size : Int) := of_decide_eq_true (by first | (with_reducible assumption) | assumption); have hx12 := bt_at x0_6 x3_3; replace p12 := eq_true p12; replace q12 := eq_true q12
                      go_wp2_with (first | ((with_reducible refine q15 (f := 113) rfl ?_); refine goesL_ (some 24) rfl rfl Try.func113 (by kernel_rfl) rfl #[.int .u8 (bt x0_6 x3_3)] rfl (by (try simp only [List.map_toArray, List.map_cons, List.map_nil]); first | done | rfl | (simp only [List.length_drop, List.length_take]; rfl)) ?_; (with_reducible refine (chiasmusref01_Digit.calls (bt x0_6 x3_3) false _ A13.out).mono ?_); rintro e w' ⟨rfl, ⟨nd, rfl⟩⟩; refine ⟨_, rfl, ?_⟩))
                      go_ret; exact ⟨by first | rfl | (simp; done) | (simp [*]; done), by repeat (first | exact Drawn0.refl _ | apply Drawn0.step)⟩
                  · rw [if_neg c11] at H; exact absurd H (by simp)
                · rw [if_neg c10] at H; have c10b0 : decide (x3_3 < (x0_6.size : Int)) = false := decide_eq_false c10; clear c10
                  by_cases c15 : x0_6.toList = ([] : List UInt8)
                  · rw [if_pos c15] at H; have c15b0 : (x0_6.toList == ([] : List UInt8)) = true := beq_iff_eq.mpr c15; have c15b1 : (x0_6.toList != ([] : List UInt8)) = false := bne_eq_false_iff_eq.mpr c15; clear c15; obtain rfl := Option.some.inj H
                    go_wp2
                    go_ret; exact ⟨by first | rfl | (simp; done) | (simp [*]; done), by repeat (first | exact Drawn0.refl _ | apply Drawn0.step)⟩
                  · rw [if_neg c15] at H; have c15b0 : (x0_6.toList == ([] : List UInt8)) = false := beq_eq_false_iff_ne.mpr c15; have c15b1 : (x0_6.toList != ([] : List UInt8)) = true := bne_iff_ne.mpr c15
                    by_cases c16 : (x0_6.size : Int) ≤ 500
                    · rw [if_pos c16] at H; have c16b0 : decide ((x0_6.size : Int) ≤ 500) = true := decide_eq_true c16; have c16b1 : decide (x0_6.size ≤ 500) = true := decide_eq_true (by omega); clear c16
                      by_cases c17 : 0 < (x0_6.size : Int)
                      · rw [if_pos c17] at H; have c17b0 : decide (0 < (x0_6.size : Int)) = true := decide_eq_true c17; have c17b1 : decide (0 < x0_6.size) = true := decide_eq_true (by omega); clear c17; obtain rfl := Option.some.inj H; have p18 : 0 ≤ (0 : Int) := (by omega); have q18 : 0 < x0_6.size := (by have : (0 : Int) < (x0_6.size : Int) := of_decide_eq_true (by first | (with_reducible assumption) | assumption); omega); have hx18 : ∀ h : 0 < x0_6.size, ((x0_6[0]'h).toNat : Int) = bt x0_6 0 := bt_at x0_6 0; clear p18; have qi18 : (0 < (x0_6.size : Int)) = True := eq_true (of_decide_eq_true (by first | (with_reducible assumption) | assumption)); replace q18 := eq_true q18
                        go_wp2
                        go_ret; exact ⟨by first | rfl | (simp; done) | (simp [*]; done), by repeat (first | exact Drawn0.refl _ | apply Drawn0.step)⟩
                      · rw [if_neg c17] at H; exact absurd H (by simp)
                    · rw [if_neg c16] at H; have c16b0 : decide ((x0_6.size : Int) ≤ 500) = false := decide_eq_false c16; have c16b1 : decide (x0_6.size ≤ 500) = false := decide_eq_false (by omega); clear c16; obtain rfl := Option.some.inj H
                      go_wp2
                      go_ret; exact ⟨by first | rfl | (simp; done) | (simp [*]; done), by repeat (first | exact Drawn0.refl _ | apply Drawn0.step)⟩
end Go.Proofs.Ytdbjjaodkapikaa.TE
