/- Part of the walk: lemmas and printed functions that the claim uses (wip/tools/trim.py). -/
import Derived.Test.YtjhjhhibbmligaaMTEx0
namespace Go.Proofs.Ytjhjhhibbmligaa.TE
open Go.RowKit Go.Proofs.YtjhjhhibbmligaaW.PrintWords Go.Proofs.YtjhjhhibbmligaaW.PrintLast Go.Proofs.YtjhjhhibbmligaaW.PrintMore
attribute [local go_sem] max2_int min2_int max_two min_two max_three min_three max_four min_four
set_option linter.unusedVariables false
set_option linter.unusedSimpArgs false
mutual
def term_classOf.j0 : Nat → Int → Bool → Option (Int)
  | 0, _, _ => none
  | k + 1, x0, x3 => if x3 = true then (some 5) else (if x0 ≥ 48 then (term_classOf.j1 k x0 (decide (x0 ≤ 57))) else (term_classOf.j1 k x0 false))
def term_classOf.j1 : Nat → Int → Bool → Option (Int)
  | 0, _, _ => none
  | k + 1, x0, x18 => if x18 = true then (some 6) else (if x0 = 45 then (term_classOf.j2 k x0 true) else (term_classOf.j2 k x0 (x0 == 95)))
def term_classOf.j2 : Nat → Int → Bool → Option (Int)
  | 0, _, _ => none
  | k + 1, x0, x25 => if x25 = true then (some 4) else (if x0 = 32 then (some 8) else (if x0 = 9 then (some 8) else (if x0 = 10 then (some 8) else (if x0 = 13 then (some 8) else (some 0)))))
end
def term_classOf.f (k : Nat) (a0 : Int) : Option (Int) := if a0 ≥ 97 then (if a0 ≤ 122 then (term_classOf.j0 k a0 true) else (if a0 ≥ 65 then (term_classOf.j0 k a0 (decide (a0 ≤ 90))) else (term_classOf.j0 k a0 false))) else (if a0 ≥ 65 then (term_classOf.j0 k a0 (decide (a0 ≤ 90))) else (term_classOf.j0 k a0 false))
theorem term_classOf.mono_l : ∀ k, (∀ y0 y1, LeO (term_classOf.j0 k y0 y1) (term_classOf.j0 (k + 1) y0 y1)) ∧ (∀ y0 y1, LeO (term_classOf.j1 k y0 y1) (term_classOf.j1 (k + 1) y0 y1)) ∧ (∀ y0 y1, LeO (term_classOf.j2 k y0 y1) (term_classOf.j2 (k + 1) y0 y1))
  | 0 => ⟨fun _ _ r h => by simp [term_classOf.j0] at h, fun _ _ r h => by simp [term_classOf.j1] at h, fun _ _ r h => by simp [term_classOf.j2] at h⟩
  | k + 1 => by
    obtain ⟨ih0, ih1, ih2⟩ := term_classOf.mono_l k; refine ⟨?_, ?_, ?_⟩
    · intro y0 y1; unfold term_classOf.j0
      repeat' first
      | (with_reducible exact ih0 _ _)
      | (with_reducible exact ih1 _ _)
      | (with_reducible exact ih2 _ _)
      | (with_reducible exact LeO.refl _)
      | (with_reducible exact LeO.none _)
      | (with_reducible refine LeO.ite ?_ ?_)
      | (with_reducible refine LeO.bind ?_ (fun _ => ?_))
      | exact ih0 _ _
      | exact ih1 _ _
      | exact ih2 _ _
      | exact LeO.none _
      | refine LeO.ite ?_ ?_
      | refine LeO.bind ?_ (fun _ => ?_)
    · intro y0 y1; unfold term_classOf.j1
      repeat' first
      | (with_reducible exact ih0 _ _)
      | (with_reducible exact ih1 _ _)
      | (with_reducible exact ih2 _ _)
      | (with_reducible exact LeO.refl _)
      | (with_reducible exact LeO.none _)
      | (with_reducible refine LeO.ite ?_ ?_)
      | (with_reducible refine LeO.bind ?_ (fun _ => ?_))
      | exact ih0 _ _
      | exact ih1 _ _
      | exact ih2 _ _
      | exact LeO.none _
      | refine LeO.ite ?_ ?_
      | refine LeO.bind ?_ (fun _ => ?_)
    · intro y0 y1; unfold term_classOf.j2
      repeat' first
      | (with_reducible exact ih0 _ _)
      | (with_reducible exact ih1 _ _)
      | (with_reducible exact ih2 _ _)
      | (with_reducible exact LeO.refl _)
      | (with_reducible exact LeO.none _)
      | (with_reducible refine LeO.ite ?_ ?_)
      | (with_reducible refine LeO.bind ?_ (fun _ => ?_))
      | exact ih0 _ _
      | exact ih1 _ _
      | exact ih2 _ _
      | exact LeO.none _
      | refine LeO.ite ?_ ?_
      | refine LeO.bind ?_ (fun _ => ?_)
theorem term_classOf.mono : ∀ a0 k, LeO (term_classOf.f k a0) (term_classOf.f (k + 1) a0) := by
  intro a0 k; obtain ⟨ih0, ih1, ih2⟩ := term_classOf.mono_l k; unfold term_classOf.f
  repeat' first
      | (with_reducible exact ih0 _ _)
      | (with_reducible exact ih1 _ _)
      | (with_reducible exact ih2 _ _)
      | (with_reducible exact LeO.refl _)
      | (with_reducible exact LeO.none _)
      | (with_reducible refine LeO.ite ?_ ?_)
      | (with_reducible refine LeO.bind ?_ (fun _ => ?_))
      | exact ih0 _ _
      | exact ih1 _ _
      | exact ih2 _ _
      | exact LeO.none _
      | refine LeO.ite ?_ ?_
      | refine LeO.bind ?_ (fun _ => ?_)
set_option maxHeartbeats 8000000 in
set_option maxRecDepth 100000 in
theorem term_classOf.calls (k : Nat) (a0 : Int) (r : Int) (w : World) (h : term_classOf.f k a0 = some r) :
    Calls Try.prog 186 #[.int .u8 a0] w fun e w' => e = .returned (.int .u8 r) ∧ Drawn0 w w' := by
  have H : (if a0 ≥ 97 then (if a0 ≤ 122 then (term_classOf.j0 k a0 true) else (if a0 ≥ 65 then (term_classOf.j0 k a0 (decide (a0 ≤ 90))) else (term_classOf.j0 k a0 false))) else (if a0 ≥ 65 then (term_classOf.j0 k a0 (decide (a0 ≤ 90))) else (term_classOf.j0 k a0 false))) = some r := h; clear h; have HC2 := Aside0.mk H; clear H
  go_enter Try.func186, Try.ntmps186
  go_upto_region 1 with (fail)
  go_cut [3] (fun v3 wc => ∃ (kq : Nat) (x3_1 : Bool), v3 = .bool x3_1 ∧ Aside0 (term_classOf.j0 kq a0 x3_1 = some r) ∧ Aside0 (kq ≤ k) ∧ Drawn0 w wc)
  case first =>
    have H := HC2.out; clear HC2
    by_cases c3 : a0 ≥ 97
    · rw [if_pos c3] at H; have c3b0 : decide (97 ≤ a0) = true := decide_eq_true c3; clear c3
      (first | rw [c3b0] | (simp only [i64_w, i32_w]; rw [c3b0]) | skip)
      by_cases c4 : a0 ≤ 122
      · rw [if_pos c4] at H; have c4b0 : decide (a0 ≤ 122) = true := decide_eq_true c4; clear c4; have H' := Aside0.mk H; clear H
        go_wp2
        go_meet
        case rel => exact ⟨_, (true), (by first | rfl | (simp; done) | (simp [*]; done)), H', ⟨by first | omega | exact Nat.le_refl _⟩, by repeat (first | exact Drawn0.refl _ | apply Drawn0.step)⟩
      · rw [if_neg c4] at H; have c4b0 : decide (a0 ≤ 122) = false := decide_eq_false c4; clear c4
        by_cases c5 : a0 ≥ 65
        · rw [if_pos c5] at H; have c5b0 : decide (65 ≤ a0) = true := decide_eq_true c5; clear c5; have H' := Aside0.mk H; clear H
          go_wp2
          go_meet
          case rel => exact ⟨_, (decide (a0 ≤ 90)), (by first | rfl | (simp; done) | (simp [*]; done)), H', ⟨by first | omega | exact Nat.le_refl _⟩, by repeat (first | exact Drawn0.refl _ | apply Drawn0.step)⟩
        · rw [if_neg c5] at H; have c5b0 : decide (65 ≤ a0) = false := decide_eq_false c5; clear c5; have H' := Aside0.mk H; clear H
          go_wp2
          go_meet
          case rel => exact ⟨_, (false), (by first | rfl | (simp; done) | (simp [*]; done)), H', ⟨by first | omega | exact Nat.le_refl _⟩, by repeat (first | exact Drawn0.refl _ | apply Drawn0.step)⟩
    · rw [if_neg c3] at H; have c3b0 : decide (97 ≤ a0) = false := decide_eq_false c3; clear c3
      (first | rw [c3b0] | (simp only [i64_w, i32_w]; rw [c3b0]) | skip)
      by_cases c6 : a0 ≥ 65
      · rw [if_pos c6] at H; have c6b0 : decide (65 ≤ a0) = true := decide_eq_true c6; clear c6; have H' := Aside0.mk H; clear H
        go_wp2
        go_meet
        case rel => exact ⟨_, (decide (a0 ≤ 90)), (by first | rfl | (simp; done) | (simp [*]; done)), H', ⟨by first | omega | exact Nat.le_refl _⟩, by repeat (first | exact Drawn0.refl _ | apply Drawn0.step)⟩
      · rw [if_neg c6] at H; have c6b0 : decide (65 ≤ a0) = false := decide_eq_false c6; clear c6; have H' := Aside0.mk H; clear H
        go_wp2
        go_meet
        case rel => exact ⟨_, (false), (by first | rfl | (simp; done) | (simp [*]; done)), H', ⟨by first | omega | exact Nat.le_refl _⟩, by repeat (first | exact Drawn0.refl _ | apply Drawn0.step)⟩
  case rest =>
    clear HC2
    try clear c1
    try clear p2
    try clear c3
    try clear c3b0
    try clear c4
    try clear c4b0
    try clear c5
    try clear c5b0
    try clear c6
    try clear c6b0
    obtain ⟨kq, x3_1, rfl, HA, HJ1, ⟨mc1, rfl⟩⟩ := hcut
    cases kq with
    | zero => exact absurd HA.out (by simp [term_classOf.j0])
    | succ kj1 =>
      have H := HA.out; clear HA; simp only [term_classOf.j0] at H
      by_cases c7 : x3_1 = true
      · subst c7
        have H1 : (some 5) = some r := by rw [if_pos rfl] at H; exact H
        clear H; have H := H1; clear H1; obtain rfl := Option.some.inj H
        go_wp2
        go_ret; exact ⟨by first | rfl | (simp; done) | (simp [*]; done), by repeat (first | exact Drawn0.refl _ | apply Drawn0.step)⟩
      · replace c7 := Bool.eq_false_iff.mpr c7; subst c7
        have H1 : (if a0 ≥ 48 then (term_classOf.j1 kj1 a0 (decide (a0 ≤ 57))) else (term_classOf.j1 kj1 a0 false)) = some r := by rw [if_neg (show ¬ (false = true) by decide)] at H; exact H
        clear H; have H := H1; clear H1; have HC8 := Aside0.mk H; clear H
        go_upto_region 3 with (fail)
        go_cut [18] (fun v18 wc => ∃ (kq : Nat) (x18_7 : Bool), v18 = .bool x18_7 ∧ Aside0 (term_classOf.j1 kq a0 x18_7 = some r) ∧ Aside0 (kq ≤ kj1) ∧ Drawn0 w wc)
        case first =>
          have H := HC8.out; clear HC8
          by_cases c9 : a0 ≥ 48
          · rw [if_pos c9] at H; have c9b0 : decide (48 ≤ a0) = true := decide_eq_true c9; clear c9
            (first | rw [c9b0] | (simp only [i64_w, i32_w]; rw [c9b0]) | skip)
            have H' := Aside0.mk H; clear H
            go_wp2
            go_meet
            case rel => exact ⟨_, (decide (a0 ≤ 57)), (by first | rfl | (simp; done) | (simp [*]; done)), H', ⟨by have := HJ1.out; first | omega | exact Nat.le_refl _⟩, by repeat (first | exact Drawn0.refl _ | apply Drawn0.step)⟩
          · rw [if_neg c9] at H; have c9b0 : decide (48 ≤ a0) = false := decide_eq_false c9; clear c9
            (first | rw [c9b0] | (simp only [i64_w, i32_w]; rw [c9b0]) | skip)
            have H' := Aside0.mk H; clear H
            go_wp2
            go_meet
            case rel => exact ⟨_, (false), (by first | rfl | (simp; done) | (simp [*]; done)), H', ⟨by have := HJ1.out; first | omega | exact Nat.le_refl _⟩, by repeat (first | exact Drawn0.refl _ | apply Drawn0.step)⟩
        case rest =>
          clear HC8
          try clear c1
          try clear p2
          try clear c3
          try clear c3b0
          try clear c4
          try clear c4b0
          try clear c5
          try clear c5b0
          try clear c6
          try clear c6b0
          try clear c7
          try clear c9
          try clear c9b0
          try clear p2
          obtain ⟨kq, x18_7, rfl, HA, HJ7, ⟨mc7, rfl⟩⟩ := hcut
          cases kq with
          | zero => exact absurd HA.out (by simp [term_classOf.j1])
          | succ kj7 =>
            have H := HA.out; clear HA; simp only [term_classOf.j1] at H
            by_cases c10 : x18_7 = true
            · subst c10
              have H1 : (some 6) = some r := by rw [if_pos rfl] at H; exact H
              clear H; have H := H1; clear H1; obtain rfl := Option.some.inj H
              go_wp2
              go_ret; exact ⟨by first | rfl | (simp; done) | (simp [*]; done), by repeat (first | exact Drawn0.refl _ | apply Drawn0.step)⟩
            · replace c10 := Bool.eq_false_iff.mpr c10; subst c10
              have H1 : (if a0 = 45 then (term_classOf.j2 kj7 a0 true) else (term_classOf.j2 kj7 a0 (a0 == 95))) = some r := by rw [if_neg (show ¬ (false = true) by decide)] at H; exact H
              clear H; have H := H1; clear H1; have HC11 := Aside0.mk H; clear H
              go_upto_region 5 with (fail)
              go_cut [25] (fun v25 wc => ∃ (kq : Nat) (x25_10 : Bool), v25 = .bool x25_10 ∧ Aside0 (term_classOf.j2 kq a0 x25_10 = some r) ∧ Aside0 (kq ≤ kj7) ∧ Drawn0 w wc)
              case first =>
                have H := HC11.out; clear HC11
                by_cases c12 : a0 = 45
                · rw [if_pos c12] at H; have c12b0 : (a0 == 45) = true := beq_iff_eq.mpr c12; have c12b1 : (a0 != 45) = false := bne_eq_false_iff_eq.mpr c12; clear c12
                  (first | rw [c12b0] | (simp only [i64_w, i32_w]; rw [c12b0]) | skip)
                  have H' := Aside0.mk H; clear H
                  go_wp2
                  go_meet
                  case rel => exact ⟨_, (true), (by first | rfl | (simp; done) | (simp [*]; done)), H', ⟨by have := HJ1.out; have := HJ7.out; first | omega | exact Nat.le_refl _⟩, by repeat (first | exact Drawn0.refl _ | apply Drawn0.step)⟩
                · rw [if_neg c12] at H; have c12b0 : (a0 == 45) = false := beq_eq_false_iff_ne.mpr c12; have c12b1 : (a0 != 45) = true := bne_iff_ne.mpr c12
                  (first | rw [c12b0] | (simp only [i64_w, i32_w]; rw [c12b0]) | skip)
                  have H' := Aside0.mk H; clear H
                  go_wp2
                  go_meet
                  case rel => exact ⟨_, ((a0 == 95)), (by first | rfl | (simp; done) | (simp [*]; done)), H', ⟨by have := HJ1.out; have := HJ7.out; first | omega | exact Nat.le_refl _⟩, by repeat (first | exact Drawn0.refl _ | apply Drawn0.step)⟩
              case rest =>
                clear HC11
                try clear c1
                try clear p2
                try clear c3
                try clear c3b0
                try clear c4
                try clear c4b0
                try clear c5
                try clear c5b0
                try clear c6
                try clear c6b0
                try clear c7
                try clear c9
                try clear c9b0
                try clear c10
                try clear c12
                try clear c12b0
                try clear c12b1
                try clear p2
                obtain ⟨kq, x25_10, rfl, HA, HJ10, ⟨mc10, rfl⟩⟩ := hcut
                cases kq with
                | zero => exact absurd HA.out (by simp [term_classOf.j2])
                | succ kj10 =>
                  have H := HA.out; clear HA; simp only [term_classOf.j2] at H
                  by_cases c13 : x25_10 = true
                  · subst c13
                    have H1 : (some 4) = some r := by rw [if_pos rfl] at H; exact H
                    clear H; have H := H1; clear H1; obtain rfl := Option.some.inj H
                    go_wp2
                    go_ret; exact ⟨by first | rfl | (simp; done) | (simp [*]; done), by repeat (first | exact Drawn0.refl _ | apply Drawn0.step)⟩
                  · replace c13 := Bool.eq_false_iff.mpr c13; subst c13
                    have H1 : (if a0 = 32 then (some 8) else (if a0 = 9 then (some 8) else (if a0 = 10 then (some 8) else (if a0 = 13 then (some 8) else (some 0))))) = some r := by rw [if_neg (show ¬ (false = true) by decide)] at H; exact H
                    clear H; have H := H1; clear H1
                    by_cases c14 : a0 = 32
                    · rw [if_pos c14] at H; have c14b0 : (a0 == 32) = true := beq_iff_eq.mpr c14; have c14b1 : (a0 != 32) = false := bne_eq_false_iff_eq.mpr c14; clear c14; obtain rfl := Option.some.inj H
                      go_wp2
                      go_ret; exact ⟨by first | rfl | (simp; done) | (simp [*]; done), by repeat (first | exact Drawn0.refl _ | apply Drawn0.step)⟩
                    · rw [if_neg c14] at H; have c14b0 : (a0 == 32) = false := beq_eq_false_iff_ne.mpr c14; have c14b1 : (a0 != 32) = true := bne_iff_ne.mpr c14
                      by_cases c15 : a0 = 9
                      · rw [if_pos c15] at H; have c15b0 : (a0 == 9) = true := beq_iff_eq.mpr c15; have c15b1 : (a0 != 9) = false := bne_eq_false_iff_eq.mpr c15; clear c15; obtain rfl := Option.some.inj H
                        go_wp2
                        go_ret; exact ⟨by first | rfl | (simp; done) | (simp [*]; done), by repeat (first | exact Drawn0.refl _ | apply Drawn0.step)⟩
                      · rw [if_neg c15] at H; have c15b0 : (a0 == 9) = false := beq_eq_false_iff_ne.mpr c15; have c15b1 : (a0 != 9) = true := bne_iff_ne.mpr c15
                        by_cases c16 : a0 = 10
                        · rw [if_pos c16] at H; have c16b0 : (a0 == 10) = true := beq_iff_eq.mpr c16; have c16b1 : (a0 != 10) = false := bne_eq_false_iff_eq.mpr c16; clear c16; obtain rfl := Option.some.inj H
                          go_wp2
                          go_ret; exact ⟨by first | rfl | (simp; done) | (simp [*]; done), by repeat (first | exact Drawn0.refl _ | apply Drawn0.step)⟩
                        · rw [if_neg c16] at H; have c16b0 : (a0 == 10) = false := beq_eq_false_iff_ne.mpr c16; have c16b1 : (a0 != 10) = true := bne_iff_ne.mpr c16
                          by_cases c17 : a0 = 13
                          · rw [if_pos c17] at H; have c17b0 : (a0 == 13) = true := beq_iff_eq.mpr c17; have c17b1 : (a0 != 13) = false := bne_eq_false_iff_eq.mpr c17; clear c17; obtain rfl := Option.some.inj H
                            go_wp2
                            go_ret; exact ⟨by first | rfl | (simp; done) | (simp [*]; done), by repeat (first | exact Drawn0.refl _ | apply Drawn0.step)⟩
                          · rw [if_neg c17] at H; have c17b0 : (a0 == 13) = false := beq_eq_false_iff_ne.mpr c17; have c17b1 : (a0 != 13) = true := bne_iff_ne.mpr c17; obtain rfl := Option.some.inj H
                            go_wp2
                            go_ret; exact ⟨by first | rfl | (simp; done) | (simp [*]; done), by repeat (first | exact Drawn0.refl _ | apply Drawn0.step)⟩
def term_is.f (k : Nat) (a0 : Int) (a1 : Int) : Option (Bool) := (term_classOf.f k a0).bind fun t110 => (some ((Go.bits .and .u8 t110 a1) != 0))
theorem term_is.mono : ∀ a0 a1 k, LeO (term_is.f k a0 a1) (term_is.f (k + 1) a0 a1) := by
  intro a0 a1 k; unfold term_is.f
  repeat' first
      | (with_reducible exact term_classOf.mono _ _)
      | (with_reducible exact LeO.refl _)
      | (with_reducible exact LeO.none _)
      | (with_reducible refine LeO.ite ?_ ?_)
      | (with_reducible refine LeO.bind ?_ (fun _ => ?_))
      | exact term_classOf.mono _ _
      | exact LeO.none _
      | refine LeO.ite ?_ ?_
      | refine LeO.bind ?_ (fun _ => ?_)
set_option maxHeartbeats 8000000 in
set_option maxRecDepth 100000 in
theorem term_is.calls (k : Nat) (a0 : Int) (a1 : Int) (r : Bool) (w : World) (h : term_is.f k a0 a1 = some r) :
    Calls Try.prog 156 #[.int .u8 a0, .int .u8 a1] w fun e w' => e = .returned (.bool r) ∧ Drawn0 w w' := by
  have H : ((term_classOf.f k a0).bind fun t110 => (some ((Go.bits .and .u8 t110 a1) != 0))) = some r := h; clear h; replace H := Option.bind_eq_some_iff.mp H; obtain ⟨t110, A30, H⟩ := H; replace H : (some ((Go.bits .and .u8 t110 a1) != 0)) = some r := H; have A3 := Aside0.mk A30; clear A30; obtain rfl := Option.some.inj H
  go_enter Try.func156, Try.ntmps156
  go_wp2_with (first | ((with_reducible refine gate_callee (f := 186) rfl ?_); refine goesL_ (some 6) rfl rfl Try.func186 (by kernel_rfl) rfl #[.int .u8 a0] rfl (by (try simp only [List.map_toArray, List.map_cons, List.map_nil]); first | done | rfl | (simp only [List.length_drop, List.length_take]; rfl)) ?_; (with_reducible refine (term_classOf.calls k a0 t110 _ A3.out).mono ?_); rintro e w' ⟨rfl, ⟨nd, rfl⟩⟩; refine ⟨_, rfl, ?_⟩))
  go_ret; exact ⟨by first | rfl | (simp; done) | (simp [*]; done), by repeat (first | exact Drawn0.refl _ | apply Drawn0.step)⟩
def term_every.l0 : Nat → ByteArray → Int → Int → Int → Option (Bool)
  | 0, _, _, _, _ => none
  | k + 1, x0, x1, x7, x8 => if x8 < x7 then (if 0 ≤ x8 then (if x8 < (x0.size : Int) then ((term_is.f k (bt x0 x8) x1).bind fun t111 => (if t111 = true then (term_every.l0 k x0 x1 x7 (wrap64 (x8 + 1))) else (some false))) else (none)) else (none)) else (some true)
def term_every.f (k : Nat) (a0 : ByteArray) (a1 : Int) : Option (Bool) := term_every.l0 k a0 a1 (a0.size : Int) 0
set_option maxHeartbeats 8000000 in
set_option maxRecDepth 100000 in
theorem term_every.calls (k : Nat) (a0 : ByteArray) (a1 : Int) (r : Bool) (w : World) (h : term_every.f k a0 a1 = some r) :
    Calls Try.prog 173 #[.string a0, .int .u8 a1] w fun e w' => e = .returned (.bool r) ∧ Drawn0 w w' := by
  have H : (term_every.l0 k a0 a1 (a0.size : Int) 0) = some r := h; clear h; have H' := Aside0.mk H; clear H
  go_enter Try.func173, Try.ntmps173
  go_wp2
  go_loopg [8] k (fun kq v8 w' => ∃ (x8_1 : Int), v8 = .int .i64 x8_1 ∧ Aside0 (term_every.l0 kq a0 a1 (a0.size : Int) x8_1 = some r) ∧ Aside0 (kq ≤ k) ∧ Drawn0 w w')
  case atStart => exact ⟨(0), (by first | rfl | (simp; done) | (simp [*]; done)), H', ⟨Nat.le_refl _⟩, by repeat (first | exact Drawn0.refl _ | apply Drawn0.step)⟩
  case round =>
    clear H'
    try clear c1
    try clear p2
    obtain ⟨x8_1, rfl, HA, HK1, ⟨m1, rfl⟩⟩ := hrel
    cases gk with
    | zero => exact absurd HA.out (by simp [term_every.l0])
    | succ k1 =>
      have H := HA.out; clear HA; simp only [term_every.l0] at H
      by_cases c3 : x8_1 < (a0.size : Int)
      · rw [if_pos c3] at H; have c3b0 : decide (x8_1 < (a0.size : Int)) = true := decide_eq_true c3; clear c3
        by_cases c4 : 0 ≤ x8_1
        · rw [if_pos c4] at H; have c4b0 : decide (0 ≤ x8_1) = true := decide_eq_true c4; clear c4
          by_cases c5 : x8_1 < (a0.size : Int)
          · rw [if_pos c5] at H; have c5b0 : decide (x8_1 < (a0.size : Int)) = true := decide_eq_true c5; clear c5; replace H := Option.bind_eq_some_iff.mp H; obtain ⟨t111, A70, H⟩ := H; replace H : (if t111 = true then (term_every.l0 k1 a0 a1 (a0.size : Int) (wrap64 (x8_1 + 1))) else (some false)) = some r := H; have A7 := Aside0.mk A70; clear A70
            by_cases c8 : t111 = true
            · subst c8
              have H1 : (term_every.l0 k1 a0 a1 (a0.size : Int) (wrap64 (x8_1 + 1))) = some r := by rw [if_pos rfl] at H; exact H
              clear H; have H := H1; clear H1; have H' := Aside0.mk H; clear H; have p6 : 0 ≤ (x8_1 : Int) := of_decide_eq_true (by first | (with_reducible assumption) | assumption); have q6 : x8_1 < (a0.size : Int) := of_decide_eq_true (by first | (with_reducible assumption) | assumption); have hx6 := bt_at a0 x8_1; replace p6 := eq_true p6; replace q6 := eq_true q6
              go_wp2_with (first | ((with_reducible refine gate_callee (f := 156) rfl ?_); refine goesL_ (some 15) rfl rfl Try.func156 (by kernel_rfl) rfl #[.int .u8 (bt a0 x8_1), .int .u8 a1] rfl (by (try simp only [List.map_toArray, List.map_cons, List.map_nil]); first | done | rfl | (simp only [List.length_drop, List.length_take]; rfl)) ?_; (with_reducible refine (term_is.calls k1 (bt a0 x8_1) a1 true _ A7.out).mono ?_); rintro e w' ⟨rfl, ⟨nd, rfl⟩⟩; refine ⟨_, rfl, ?_⟩))
              go_roundg k1
              case measure => have := HK1.out; omega
              case rel => exact ⟨(wrap64 (x8_1 + 1)), (by first | rfl | (simp; done) | (simp [*]; done)), H', ⟨by have := HK1.out; omega⟩, by repeat (first | exact Drawn0.refl _ | apply Drawn0.step)⟩
            · replace c8 := Bool.eq_false_iff.mpr c8; subst c8
              have H1 : (some false) = some r := by rw [if_neg (show ¬ (false = true) by decide)] at H; exact H
              clear H; have H := H1; clear H1; obtain rfl := Option.some.inj H; have p6 : 0 ≤ (x8_1 : Int) := of_decide_eq_true (by first | (with_reducible assumption) | assumption); have q6 : x8_1 < (a0.size : Int) := of_decide_eq_true (by first | (with_reducible assumption) | assumption); have hx6 := bt_at a0 x8_1; replace p6 := eq_true p6; replace q6 := eq_true q6
              go_wp2_with (first | ((with_reducible refine gate_callee (f := 156) rfl ?_); refine goesL_ (some 15) rfl rfl Try.func156 (by kernel_rfl) rfl #[.int .u8 (bt a0 x8_1), .int .u8 a1] rfl (by (try simp only [List.map_toArray, List.map_cons, List.map_nil]); first | done | rfl | (simp only [List.length_drop, List.length_take]; rfl)) ?_; (with_reducible refine (term_is.calls k1 (bt a0 x8_1) a1 false _ A7.out).mono ?_); rintro e w' ⟨rfl, ⟨nd, rfl⟩⟩; refine ⟨_, rfl, ?_⟩))
              go_ret; exact ⟨by first | rfl | (simp; done) | (simp [*]; done), by repeat (first | exact Drawn0.refl _ | apply Drawn0.step)⟩
          · rw [if_neg c5] at H; exact absurd H (by simp)
        · rw [if_neg c4] at H; exact absurd H (by simp)
      · rw [if_neg c3] at H; have c3b0 : decide (x8_1 < (a0.size : Int)) = false := decide_eq_false c3; clear c3; obtain rfl := Option.some.inj H
        go_wp2
        go_ret; exact ⟨by first | rfl | (simp; done) | (simp [*]; done), by repeat (first | exact Drawn0.refl _ | apply Drawn0.step)⟩
def term_identifier.f (k : Nat) (a0 : ByteArray) (a1 : Int) : Option (Bool) := if a0.toList = ([] : List UInt8) then (some false) else (if (a0.size : Int) ≤ a1 then (if 0 < (a0.size : Int) then ((term_is.f k (bt a0 0) 1).bind fun t112 => (if t112 = true then ((term_every.f k a0 4).bind fun t113 => (some t113)) else (some false))) else (none)) else (some false))
set_option maxHeartbeats 8000000 in
set_option maxRecDepth 100000 in
theorem term_identifier.calls (k : Nat) (a0 : ByteArray) (a1 : Int) (r : Bool) (w : World) (h : term_identifier.f k a0 a1 = some r) :
    Calls Try.prog 153 #[.string a0, .int .i64 a1] w fun e w' => e = .returned (.bool r) ∧ Drawn0 w w' := by
  have H : (if a0.toList = ([] : List UInt8) then (some false) else (if (a0.size : Int) ≤ a1 then (if 0 < (a0.size : Int) then ((term_is.f k (bt a0 0) 1).bind fun t112 => (if t112 = true then ((term_every.f k a0 4).bind fun t113 => (some t113)) else (some false))) else (none)) else (some false))) = some r := h; clear h
  by_cases c3 : a0.toList = ([] : List UInt8)
  · rw [if_pos c3] at H; have c3b0 : (a0.toList == ([] : List UInt8)) = true := beq_iff_eq.mpr c3; have c3b1 : (a0.toList != ([] : List UInt8)) = false := bne_eq_false_iff_eq.mpr c3; clear c3; obtain rfl := Option.some.inj H
    go_enter Try.func153, Try.ntmps153
    go_wp2
    go_ret; exact ⟨by first | rfl | (simp; done) | (simp [*]; done), by repeat (first | exact Drawn0.refl _ | apply Drawn0.step)⟩
  · rw [if_neg c3] at H; have c3b0 : (a0.toList == ([] : List UInt8)) = false := beq_eq_false_iff_ne.mpr c3; have c3b1 : (a0.toList != ([] : List UInt8)) = true := bne_iff_ne.mpr c3
    by_cases c4 : (a0.size : Int) ≤ a1
    · rw [if_pos c4] at H; have c4b0 : decide ((a0.size : Int) ≤ a1) = true := decide_eq_true c4; clear c4
      by_cases c5 : 0 < (a0.size : Int)
      · rw [if_pos c5] at H; have c5b0 : decide (0 < (a0.size : Int)) = true := decide_eq_true c5; have c5b1 : decide (0 < a0.size) = true := decide_eq_true (by omega); clear c5; replace H := Option.bind_eq_some_iff.mp H; obtain ⟨t112, A70, H⟩ := H; replace H : (if t112 = true then ((term_every.f k a0 4).bind fun t113 => (some t113)) else (some false)) = some r := H; have A7 := Aside0.mk A70; clear A70
        by_cases c8 : t112 = true
        · subst c8
          have H1 : ((term_every.f k a0 4).bind fun t113 => (some t113)) = some r := by rw [if_pos rfl] at H; exact H
          clear H; have H := H1; clear H1; replace H := Option.bind_eq_some_iff.mp H; obtain ⟨t113, A90, H⟩ := H; replace H : (some t113) = some r := H; have A9 := Aside0.mk A90; clear A90; obtain rfl := Option.some.inj H; have p6 : 0 ≤ (0 : Int) := (by omega); have q6 : 0 < a0.size := (by have : (0 : Int) < (a0.size : Int) := of_decide_eq_true (by first | (with_reducible assumption) | assumption); omega); have hx6 : ∀ h : 0 < a0.size, ((a0[0]'h).toNat : Int) = bt a0 0 := bt_at a0 0; clear p6; have qi6 : (0 < (a0.size : Int)) = True := eq_true (of_decide_eq_true (by first | (with_reducible assumption) | assumption)); replace q6 := eq_true q6
          go_enter Try.func153, Try.ntmps153
          go_wp2_with (first | (go_at_call 156; (with_reducible refine (term_is.calls k (bt a0 0) 1 true _ A7.out).mono ?_); rintro e w' ⟨rfl, ⟨nd, rfl⟩⟩) | (go_at_call 173; (with_reducible refine (term_every.calls k a0 4 t113 _ A9.out).mono ?_); rintro e w' ⟨rfl, ⟨nd, rfl⟩⟩))
          go_ret; exact ⟨by first | rfl | (simp; done) | (simp [*]; done), by repeat (first | exact Drawn0.refl _ | apply Drawn0.step)⟩
        · replace c8 := Bool.eq_false_iff.mpr c8; subst c8
          have H1 : (some false) = some r := by rw [if_neg (show ¬ (false = true) by decide)] at H; exact H
          clear H; have H := H1; clear H1; obtain rfl := Option.some.inj H; have p6 : 0 ≤ (0 : Int) := (by omega); have q6 : 0 < a0.size := (by have : (0 : Int) < (a0.size : Int) := of_decide_eq_true (by first | (with_reducible assumption) | assumption); omega); have hx6 : ∀ h : 0 < a0.size, ((a0[0]'h).toNat : Int) = bt a0 0 := bt_at a0 0; clear p6; have qi6 : (0 < (a0.size : Int)) = True := eq_true (of_decide_eq_true (by first | (with_reducible assumption) | assumption)); replace q6 := eq_true q6
          go_enter Try.func153, Try.ntmps153
          go_wp2_with (first | (go_at_call 156; (with_reducible refine (term_is.calls k (bt a0 0) 1 false _ A7.out).mono ?_); rintro e w' ⟨rfl, ⟨nd, rfl⟩⟩))
          go_ret; exact ⟨by first | rfl | (simp; done) | (simp [*]; done), by repeat (first | exact Drawn0.refl _ | apply Drawn0.step)⟩
      · rw [if_neg c5] at H; exact absurd H (by simp)
    · rw [if_neg c4] at H; have c4b0 : decide ((a0.size : Int) ≤ a1) = false := decide_eq_false c4; clear c4; obtain rfl := Option.some.inj H
      go_enter Try.func153, Try.ntmps153
      go_wp2
      go_ret; exact ⟨by first | rfl | (simp; done) | (simp [*]; done), by repeat (first | exact Drawn0.refl _ | apply Drawn0.step)⟩
def oddR (r : Nat) : Bool := decide (r < 32) || decide (126 < r)
set_option maxHeartbeats 1000000 in
theorem term_right_1.calls (r : Nat) (w : World) : Calls Try.prog 171 #[.int .i32 (r : Int)] w fun e w' => e = .returned (.bool (oddR r)) ∧ w' = w := by
  by_cases h1 : r < 32
  · have b1 : decide ((r : Int) < 32) = true := by simp; omega
    go_enter Try.func171, Try.ntmps171
    go_wp2
    go_ret; exact ⟨by simp [oddR, h1], rfl⟩
  · have b1 : decide ((r : Int) < 32) = false := by simp; omega
    go_enter Try.func171, Try.ntmps171
    go_wp2
    go_ret
    have b2 : decide ((126 : Int) < (r : Int)) = decide (126 < r) := by rw [decide_eq_decide]; omega
    exact ⟨by simp [oddR, h1, b2], rfl⟩
set_option maxHeartbeats 2000000 in
set_option maxRecDepth 1000000 in
theorem strings_indexFunc.calls (s : ByteArray) (w : World) :
    Calls Try.prog 205 #[.string s, .func (.func 171) #[] #[], .bool true] w fun e w' => e = .returned (.int .i64 (Lib.idxFunc oddR true s)) ∧ Below w.heap.size w w' := by
  go_enter Try.func205, Try.ntmps205
  go_wp2
  go_loopg [] s.size (fun gf wx => ∃ pos : Nat, wx.heap[w.heap.size]? = some (.stringIter s pos) ∧ Below w.heap.size w wx ∧ Lib.idxFuncFrom oddR true s gf pos = Lib.idxFunc oddR true s ∧ s.size ≤ pos + gf)
  case atStart => exact ⟨0, World.iter_heap w s 0, (Below.refl _ w).alloc (Nat.le_refl _) _, rfl, by omega⟩
  case round =>
    obtain ⟨pos, hit, hbw, hleft, hfu⟩ := hrel
    by_cases hps : pos < s.size
    · obtain ⟨g', rfl⟩ : ∃ g', gk = g' + 1 := ⟨gk - 1, by omega⟩
      have hnx : ∀ ty, (Instr.next (.pointer (some ⟨w.heap.size, 0, none⟩)) true ty).run Try.prog wr = _ := fun ty => Lib.run_next_any_at wr w.heap.size s pos ty hit hps
      have hwd := Lib.width_pos s pos; obtain ⟨R, hR⟩ : ∃ R, (Utf8.decode s pos).1 = R := ⟨_, rfl⟩; obtain ⟨K, hK⟩ : ∃ K, (Utf8.decode s pos).2 = K := ⟨_, rfl⟩; simp only [Lib.idxFuncFrom, hps, if_true, hR, hK] at hleft; rw [hR, hK] at hnx; rw [hK] at hwd; have hit2 := Lib.iterAt_heap wr w.heap.size s pos (pos + K) hit; have hbw2 := Lib.below_iterAt hbw (k := w.heap.size) (Nat.le_refl _) s (pos + K); obtain ⟨W, hWd⟩ : ∃ W, wr.iterAt w.heap.size s (pos + K) = W := ⟨_, rfl⟩; rw [hWd] at hnx hit2 hbw2; have cS := term_right_1.calls R W
      cases hsp : oddR R <;> rw [hsp] at cS <;> simp only [hsp, if_true, Bool.false_eq_true, if_false] at hleft
      · go_wp2_with (go_at_call 171; refine cS.mono ?_; rintro e W' ⟨rfl, rfl⟩)
        go_roundg g'
        case measure => omega
        case rel => exact ⟨pos + K, hit2, hbw2, hleft, by omega⟩
      · go_wp2_with (go_at_call 171; refine cS.mono ?_; rintro e W' ⟨rfl, rfl⟩)
        go_ret; exact ⟨by rw [← hleft] <;> rfl, hbw2⟩
    · have hnx : ∀ ty, (Instr.next (.pointer (some ⟨w.heap.size, 0, none⟩)) true ty).run Try.prog wr = _ := fun ty => Lib.run_next_end_at wr w.heap.size s pos ty hit hps
      rw [Lib.idxFuncFrom_end oddR true s gk pos hps] at hleft
      go_wp2
      go_ret; exact ⟨by rw [← hleft] <;> rfl, hbw⟩
set_option maxHeartbeats 1000000 in
theorem strings_IndexFunc.calls (s : ByteArray) (w : World) :
    Calls Try.prog 195 #[.string s, .func (.func 171) #[] #[]] w fun e w' => e = .returned (.int .i64 (Lib.idxFunc oddR true s)) ∧ Below w.heap.size w w' := by
  have cI := strings_indexFunc.calls s w; obtain ⟨I, hI⟩ : ∃ I, Lib.idxFunc oddR true s = I := ⟨_, rfl⟩; rw [hI] at cI ⊢
  go_enter Try.func195, Try.ntmps195
  go_wp2_with (go_at_call 205; refine cI.mono ?_; rintro e w' ⟨rfl, hb⟩)
  go_ret; exact ⟨rfl, hb⟩
theorem get_bang (s : ByteArray) (i : Nat) (h : i < s.size) : s.get! i = s[i] := by
  cases s with | mk a => exact getElem!_pos a i h
theorem decode_ascii (s : ByteArray) (i : Nat) (h : i < s.size) (h2 : s[i].toNat < 128) : Utf8.decode s i = (s[i].toNat, 1) := by
  unfold Utf8.decode; simp only [Nat.add_zero, get_bang s i h]; rw [if_pos h2]
theorem decode_other (s : ByteArray) (i : Nat) (h : i < s.size) (h2 : ¬ s[i].toNat < 128) : 126 < (Utf8.decode s i).1 := by
  unfold Utf8.decode; simp only [Nat.add_zero, get_bang s i h]; rw [if_neg h2]
  repeat' split
  all_goals first | (simp only [Utf8.runeError]; omega) | (rename_i hc; simp only [Bool.and_eq_true, decide_eq_true_eq] at hc; simp only; omega) | (simp only; omega)
theorem idx_from (s : ByteArray) : ∀ f pos, s.size ≤ pos + f → (0 ≤ Lib.idxFuncFrom oddR true s f pos ↔ ∃ i, pos ≤ i ∧ ∃ h : i < s.size, s[i].toNat < 32 ∨ 126 < s[i].toNat)
  | 0, pos, h => by
    constructor
    · intro h1; simp [Lib.idxFuncFrom] at h1
    · rintro ⟨i, h1, h2, _⟩; omega
  | f + 1, pos, h => by
    unfold Lib.idxFuncFrom
    by_cases hp : pos < s.size
    · rw [if_pos hp]
      by_cases hb : s[pos].toNat < 128
      · rw [decode_ascii s pos hp hb]
        by_cases ho : s[pos].toNat < 32 ∨ 126 < s[pos].toNat
        · rw [if_pos (by simpa [oddR] using ho)]; exact ⟨fun _ => ⟨pos, Nat.le_refl _, hp, ho⟩, fun _ => by omega⟩
        · rw [if_neg (by simpa [oddR] using ho)]; simp only; rw [idx_from s f (pos + 1) (by omega)]
          constructor
          · rintro ⟨i, h1, h2⟩; exact ⟨i, by omega, h2⟩
          · rintro ⟨i, h1, h2, h3⟩
            rcases Nat.eq_or_lt_of_le h1 with rfl | h4
            · exact absurd h3 ho
            · exact ⟨i, by omega, h2, h3⟩
      · have h3 := decode_other s pos hp hb; rw [if_pos (by simp [oddR, h3])]; exact ⟨fun _ => ⟨pos, Nat.le_refl _, hp, by omega⟩, fun _ => by omega⟩
    · rw [if_neg hp]
      constructor
      · intro h1; omega
      · rintro ⟨i, h1, h2, _⟩; omega
theorem idx_any (s : ByteArray) : decide (0 ≤ Lib.idxFunc oddR true s) = s.data.toList.any fun b => b < 32 || b > 126 := by
  rw [Bool.eq_iff_iff, decide_eq_true_eq]; unfold Lib.idxFunc; rw [idx_from s s.size 0 (by omega), List.any_eq_true]
  constructor
  · rintro ⟨i, _, h, h1⟩; refine ⟨s[i], ?_, ?_⟩
    · exact Array.getElem_mem_toList ..
    · simp only [Bool.or_eq_true, decide_eq_true_eq, GT.gt, UInt8.lt_iff_toNat_lt]; exact h1
  · rintro ⟨b, hb, h1⟩; obtain ⟨i, hi, rfl⟩ := List.mem_iff_getElem.1 hb; refine ⟨i, Nat.zero_le _, by simpa using hi, ?_⟩; simp only [Bool.or_eq_true, decide_eq_true_eq, GT.gt, UInt8.lt_iff_toNat_lt] at h1; exact h1
def strings_ContainsFunc.f (a0 : ByteArray) : Option (Bool) := some (a0.data.toList.any fun b => b < 32 || b > 126)
set_option maxHeartbeats 1000000 in
theorem strings_ContainsFunc.calls (a0 : ByteArray) (r : Bool) (w : World) (h : strings_ContainsFunc.f a0 = some r) :
    Calls Try.prog 170 #[.string a0, .func (.func 171) #[] #[]] w fun e w' => e = .returned (.bool r) ∧ Below w.heap.size w w' := by
  have cI := strings_IndexFunc.calls a0 w; obtain rfl := Option.some.inj h; clear h; rw [← idx_any]; obtain ⟨I, hI⟩ : ∃ I, Lib.idxFunc oddR true a0 = I := ⟨_, rfl⟩; rw [hI] at cI ⊢
  go_enter Try.func170, Try.ntmps170
  go_wp2_with (go_at_call 195; refine cI.mono ?_; rintro e w' ⟨rfl, hb⟩)
  go_ret; exact ⟨rfl, hb⟩
def stringslite_HasPrefix.f (a0 : ByteArray) (a1 : ByteArray) : Option (Bool) := if (a0.size : Int) ≥ (a1.size : Int) then (if 0 ≤ (a1.size : Int) then (if (a1.size : Int) ≤ (a0.size : Int) then (some ((a0.extract 0 ((a1.size : Int) : Int).toNat).toList == a1.toList)) else (none)) else (none)) else (some false)
set_option maxHeartbeats 8000000 in
set_option maxRecDepth 100000 in
theorem stringslite_HasPrefix.calls (a0 : ByteArray) (a1 : ByteArray) (r : Bool) (w : World) (h : stringslite_HasPrefix.f a0 a1 = some r) :
    Calls Try.prog 208 #[.string a0, .string a1] w fun e w' => e = .returned (.bool r) ∧ Drawn0 w w' := by
  have H : (if (a0.size : Int) ≥ (a1.size : Int) then (if 0 ≤ (a1.size : Int) then (if (a1.size : Int) ≤ (a0.size : Int) then (some ((a0.extract 0 ((a1.size : Int) : Int).toNat).toList == a1.toList)) else (none)) else (none)) else (some false)) = some r := h; clear h
  by_cases c3 : (a0.size : Int) ≥ (a1.size : Int)
  · rw [if_pos c3] at H; have c3b0 : decide ((a1.size : Int) ≤ (a0.size : Int)) = true := decide_eq_true c3; have c3b1 : decide (a1.size ≤ a0.size) = true := decide_eq_true (Int.ofNat_le.mp c3); clear c3
    by_cases c4 : 0 ≤ (a1.size : Int)
    · rw [if_pos c4] at H; have c4b0 := eq_true c4; have c4b1 : decide (0 ≤ (a1.size : Int)) = true := decide_eq_true c4; clear c4
      by_cases c5 : (a1.size : Int) ≤ (a0.size : Int)
      · rw [if_pos c5] at H; have c5b0 := eq_true c5; have c5b1 : decide ((a1.size : Int) ≤ (a0.size : Int)) = true := decide_eq_true c5; clear c5; obtain rfl := Option.some.inj H
        go_enter Try.func208, Try.ntmps208
        go_wp2
        go_ret; exact ⟨by first | rfl | (simp; done) | (simp [*]; done), by repeat (first | exact Drawn0.refl _ | apply Drawn0.step)⟩
      · rw [if_neg c5] at H; exact absurd H (by simp)
    · rw [if_neg c4] at H; exact absurd H (by simp)
  · rw [if_neg c3] at H; have c3b0 : decide ((a1.size : Int) ≤ (a0.size : Int)) = false := decide_eq_false c3; have c3b1 : decide (a1.size ≤ a0.size) = false := decide_eq_false (fun h => c3 (Int.ofNat_le.mpr h)); clear c3; obtain rfl := Option.some.inj H
    go_enter Try.func208, Try.ntmps208
    go_wp2
    go_ret; exact ⟨by first | rfl | (simp; done) | (simp [*]; done), by repeat (first | exact Drawn0.refl _ | apply Drawn0.step)⟩
def stringslite_CutPrefix.f (a0 : ByteArray) (a1 : ByteArray) : Option (ByteArray × Bool) := (stringslite_HasPrefix.f a0 a1).bind fun t114 => (if t114 = true then (if 0 ≤ (a1.size : Int) then (if (a1.size : Int) ≤ (a0.size : Int) then (some (a0.extract ((a1.size : Int) : Int).toNat a0.size, true)) else (none)) else (none)) else (some (a0, false)))
set_option maxHeartbeats 8000000 in
set_option maxRecDepth 100000 in
theorem stringslite_CutPrefix.calls (a0 : ByteArray) (a1 : ByteArray) (r1 : ByteArray) (r2 : Bool) (w : World) (h : stringslite_CutPrefix.f a0 a1 = some (r1, r2)) :
    Calls Try.prog 206 #[.string a0, .string a1] w fun e w' => e = .returned (.tuple #[.string r1, .bool r2]) ∧ Drawn0 w w' := by
  have H : ((stringslite_HasPrefix.f a0 a1).bind fun t114 => (if t114 = true then (if 0 ≤ (a1.size : Int) then (if (a1.size : Int) ≤ (a0.size : Int) then (some (a0.extract ((a1.size : Int) : Int).toNat a0.size, true)) else (none)) else (none)) else (some (a0, false)))) = some (r1, r2) := h; clear h; replace H := Option.bind_eq_some_iff.mp H; obtain ⟨t114, A30, H⟩ := H; replace H : (if t114 = true then (if 0 ≤ (a1.size : Int) then (if (a1.size : Int) ≤ (a0.size : Int) then (some (a0.extract ((a1.size : Int) : Int).toNat a0.size, true)) else (none)) else (none)) else (some (a0, false))) = some (r1, r2) := H; have A3 := Aside0.mk A30; clear A30
  by_cases c4 : t114 = true
  · subst c4
    have H1 : (if 0 ≤ (a1.size : Int) then (if (a1.size : Int) ≤ (a0.size : Int) then (some (a0.extract ((a1.size : Int) : Int).toNat a0.size, true)) else (none)) else (none)) = some (r1, r2) := by rw [if_pos rfl] at H; exact H
    clear H; have H := H1; clear H1
    by_cases c5 : 0 ≤ (a1.size : Int)
    · rw [if_pos c5] at H; have c5b0 := eq_true c5; have c5b1 : decide (0 ≤ (a1.size : Int)) = true := decide_eq_true c5; clear c5
      by_cases c6 : (a1.size : Int) ≤ (a0.size : Int)
      · rw [if_pos c6] at H; have c6b0 := eq_true c6; have c6b1 : decide ((a1.size : Int) ≤ (a0.size : Int)) = true := decide_eq_true c6; clear c6; simp only [Option.some.injEq, Prod.mk.injEq] at H; obtain ⟨rfl, rfl⟩ := H
        go_enter Try.func206, Try.ntmps206
        go_wp2_with (first | ((with_reducible refine gate_callee (f := 208) rfl ?_); refine goesL_ (some 8) rfl rfl Try.func208 (by kernel_rfl) rfl #[.string a0, .string a1] rfl (by (try simp only [List.map_toArray, List.map_cons, List.map_nil]); first | done | rfl | (simp only [List.length_drop, List.length_take]; rfl)) ?_; (with_reducible refine (stringslite_HasPrefix.calls a0 a1 true _ A3.out).mono ?_); rintro e w' ⟨rfl, ⟨nd, rfl⟩⟩; refine ⟨_, rfl, ?_⟩))
        go_ret2
        exact ⟨by first | rfl | (simp; done) | (simp [*]; done), by repeat (first | exact Drawn0.refl _ | apply Drawn0.step)⟩
      · rw [if_neg c6] at H; exact absurd H (by simp)
    · rw [if_neg c5] at H; exact absurd H (by simp)
  · replace c4 := Bool.eq_false_iff.mpr c4; subst c4
    have H1 : (some (a0, false)) = some (r1, r2) := by rw [if_neg (show ¬ (false = true) by decide)] at H; exact H
    clear H; have H := H1; clear H1; simp only [Option.some.injEq, Prod.mk.injEq] at H; obtain ⟨rfl, rfl⟩ := H
    go_enter Try.func206, Try.ntmps206
    go_wp2_with (first | ((with_reducible refine gate_callee (f := 208) rfl ?_); refine goesL_ (some 8) rfl rfl Try.func208 (by kernel_rfl) rfl #[.string a0, .string a1] rfl (by (try simp only [List.map_toArray, List.map_cons, List.map_nil]); first | done | rfl | (simp only [List.length_drop, List.length_take]; rfl)) ?_; (with_reducible refine (stringslite_HasPrefix.calls a0 a1 false _ A3.out).mono ?_); rintro e w' ⟨rfl, ⟨nd, rfl⟩⟩; refine ⟨_, rfl, ?_⟩))
    go_ret2
    exact ⟨by first | rfl | (simp; done) | (simp [*]; done), by repeat (first | exact Drawn0.refl _ | apply Drawn0.step)⟩
def strings_CutPrefix.f (a0 : ByteArray) (a1 : ByteArray) : Option (ByteArray × Bool) := (stringslite_CutPrefix.f a0 a1).bind fun bt115 => (some (bt115.1, bt115.2))
set_option maxHeartbeats 8000000 in
set_option maxRecDepth 100000 in
theorem strings_CutPrefix.calls (a0 : ByteArray) (a1 : ByteArray) (r1 : ByteArray) (r2 : Bool) (w : World) (h : strings_CutPrefix.f a0 a1 = some (r1, r2)) :
    Calls Try.prog 196 #[.string a0, .string a1] w fun e w' => e = .returned (.tuple #[.string r1, .bool r2]) ∧ Drawn0 w w' := by
  have H : ((stringslite_CutPrefix.f a0 a1).bind fun bt115 => (some (bt115.1, bt115.2))) = some (r1, r2) := h; clear h; replace H := Option.bind_eq_some_iff.mp H; obtain ⟨⟨t115, t116⟩, A30, H⟩ := H; replace H : (some (t115, t116)) = some (r1, r2) := H; have A3 := Aside0.mk A30; clear A30; simp only [Option.some.injEq, Prod.mk.injEq] at H; obtain ⟨rfl, rfl⟩ := H
  go_enter Try.func196, Try.ntmps196
  go_wp2_with (first | ((with_reducible refine gate_callee (f := 206) rfl ?_); refine goesL_ (some 8) rfl rfl Try.func206 (by kernel_rfl) rfl #[.string a0, .string a1] rfl (by (try simp only [List.map_toArray, List.map_cons, List.map_nil]); first | done | rfl | (simp only [List.length_drop, List.length_take]; rfl)) ?_; (with_reducible refine (stringslite_CutPrefix.calls a0 a1 t115 t116 _ A3.out).mono ?_); rintro e w' ⟨rfl, ⟨nd, rfl⟩⟩; refine ⟨_, rfl, ?_⟩))
  go_ret2
  exact ⟨by first | rfl | (simp; done) | (simp [*]; done), by repeat (first | exact Drawn0.refl _ | apply Drawn0.step)⟩
end Go.Proofs.Ytjhjhhibbmligaa.TE
