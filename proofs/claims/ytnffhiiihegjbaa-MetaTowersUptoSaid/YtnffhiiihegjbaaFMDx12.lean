/- Part of the walk: lemmas and printed functions that the claim uses (wip/tools/trim.py). -/
import Derived.Test.YtnffhiiihegjbaaFMDx0
import Derived.Test.YtnffhiiihegjbaaFMDx10
import Derived.Test.YtnffhiiihegjbaaFMDx11
namespace Go.Proofs.Ytnffhiiihegjbaa.MD
open Go.RowKit Go.Proofs.YtnffhiiihegjbaaW.PrintWords Go.Proofs.YtnffhiiihegjbaaW.PrintLast Go.Proofs.YtnffhiiihegjbaaW.PrintMore
attribute [local go_sem] max2_int min2_int max_two min_two max_three min_three max_four min_four
set_option linter.unusedVariables false
set_option linter.unusedSimpArgs false
mutual
def chiasmusref01_right.j0 : Nat → Bool → Int → ByteArray → List (S44) → Option (Bool)
  | 0, _, _, _, _ => none
  | k + 1, x16, x270000, x270001, x270002 => if x16 = true then (some false) else (if x270000 = 1 then (some ((x270001.size : Int) == 1)) else (if x270000 = 2 then ((chiasmusref01_IsWord.f k x270001).bind fun t270 => (some t270)) else (if x270000 = 3 then ((chiasmusref01_IsNumber.f k x270001).bind fun t271 => (some t271)) else (if x270000 = 4 then (some (x270001.toList == ([] : List UInt8))) else (if x270000 = 5 then (chiasmusref01_right.j1 k x270000 (x270000 == 5) x270000 x270001 x270002) else (if x270000 = 6 then (chiasmusref01_right.j1 k x270000 (x270000 == 6) x270000 x270001 x270002) else (chiasmusref01_right.j1 k x270000 (x270000 == 7) x270000 x270001 x270002)))))))
def chiasmusref01_right.j1 : Nat → Int → Bool → Int → ByteArray → List (S44) → Option (Bool)
  | 0, _, _, _, _, _ => none
  | k + 1, x18, x40, x270000, x270001, x270002 => if x40 = true then ((chiasmusref01_IsVar.f k x270001).bind fun t272 => (some t272)) else (if x18 = 8 then ((chiasmusref01_IsName.f k x270001 40).bind fun t273 => (some t273)) else (some false))
end
def chiasmusref01_right.f (k : Nat) (a0_0 : Int) (a0_1 : ByteArray) (l0_2 : List (S44)) : Option (Bool) := if a0_0 = 4 then (chiasmusref01_right.j0 k false a0_0 a0_1 l0_2) else (if a0_0 = 8 then (chiasmusref01_right.j0 k false a0_0 a0_1 l0_2) else (chiasmusref01_right.j0 k (decide ((l0_2.length : Int) > 0)) a0_0 a0_1 l0_2))
set_option maxHeartbeats 8000000 in
set_option maxRecDepth 100000 in
theorem chiasmusref01_right.calls (k : Nat) (a0_0 : Int) (a0_1 : ByteArray) (A0_2 : Option Addr) (c0_2 : Nat) (l0_2 : List (S44)) (r : Bool) (w : World) (hr0_2 : Kd.C k44 w A0_2 l0_2.length l0_2) (hc0_2 : l0_2.length ≤ c0_2) (h : chiasmusref01_right.f k a0_0 a0_1 l0_2 = some r) :
    Calls Try.prog 97 #[.agg #[.int .i64 a0_0, .string a0_1, .slice A0_2 l0_2.length c0_2]] w fun e w' => e = .returned (.bool r) ∧ Below w.heap.size w w' := by
  have hu44 := Try.underlying44; have HR0_2 := Aside0.mk hr0_2; have HC0_2 := Aside0.mk hc0_2; clear hr0_2 hc0_2; have HB := Aside0.mk (Below.refl w.heap.size w); have H : (if a0_0 = 4 then (chiasmusref01_right.j0 k false a0_0 a0_1 l0_2) else (if a0_0 = 8 then (chiasmusref01_right.j0 k false a0_0 a0_1 l0_2) else (chiasmusref01_right.j0 k (decide ((l0_2.length : Int) > 0)) a0_0 a0_1 l0_2))) = some r := h; clear h; have HC2 := Aside0.mk H; clear H
  go_enter Try.func97, Try.ntmps97
  go_upto_region 1 with (first | ((with_reducible refine q21 (N := 1) rfl ?_); (try (refine q25 (by rfl) ?_; dsimp only)); refine q22 ?hg (N := 1) ?hd (cs := #[.int .i64 a0_0, .string a0_1, .slice A0_2 l0_2.length c0_2]) (t := 44) ?hr ?_; (case hd => rfl); (case hg => rfl); (case hr => (go_simp; done)); intro gb269 hg w3 hbox hb; have n0_ := Aside0.mk (q10 (by with_reducible exact HB.out) hb); have n1_ := Aside0.mk (hbox); have n2_ := Aside0.mk ((by rw [hg]; exact (q3 (by with_reducible exact HB.out)) : w.heap.size ≤ gb269)); have n3_ := Aside0.mk ((by rw [hg]; exact (q3 (by with_reducible exact HB.out)) : w.heap.size ≤ gb269)); clear HB; have HB := n0_; have BK269 := n1_; have GW269 := n2_; have GE269 := n3_; clear n0_ n1_ n2_ n3_; clear hb hbox hg))
  (try simp only [Act.put, List.setIfInBounds_toArray, List.set_cons_zero, List.set_cons_succ])
  go_cut [16] (fun v16 wc => ∃ (kq : Nat) (x16_1 : Bool), v16 = .bool x16_1 ∧ Aside0 (chiasmusref01_right.j0 kq x16_1 a0_0 a0_1 l0_2 = some r) ∧ Aside0 (kq ≤ k) ∧ Aside0 (wc.heap[gb269]? = some (.cells #[.int .i64 a0_0, .string a0_1, (.slice A0_2 l0_2.length c0_2)] 44 (0, 0))) ∧ Aside0 (Below w.heap.size w wc))
  case first =>
    have H := HC2.out; clear HC2
    by_cases c4 : a0_0 = 4
    · rw [if_pos c4] at H; have c4b0 : (a0_0 == 4) = true := beq_iff_eq.mpr c4; have c4b1 : (a0_0 != 4) = false := bne_eq_false_iff_eq.mpr c4; clear c4
      (skip)
      have H' := Aside0.mk H; clear H; have hcz5_0 : w3.cell? ⟨gb269, 0, none⟩ = some (.int .i64 a0_0) := (q5 BK269.out 0).trans rfl; have hcz5_1 : w3.cell? ⟨gb269, 1, none⟩ = some (.string a0_1) := (q5 BK269.out 1).trans rfl; have hcz5_2 : w3.cell? ⟨gb269, 2, none⟩ = some (.slice A0_2 l0_2.length c0_2) := (q5 BK269.out 2).trans rfl; have hfz5_0 := q11 BK269.out 0; have hfz5_1 := q11 BK269.out 1; have hfz5_2 := q11 BK269.out 2
      go_wp2
      go_meet
      case rel => exact ⟨_, (false), (by rfl), H', ⟨by omega⟩, ⟨by exact BK269.out⟩, ⟨by with_reducible exact HB.out⟩⟩
    · rw [if_neg c4] at H; have c4b0 : (a0_0 == 4) = false := beq_eq_false_iff_ne.mpr c4; have c4b1 : (a0_0 != 4) = true := bne_iff_ne.mpr c4
      (skip)
      by_cases c6 : a0_0 = 8
      · rw [if_pos c6] at H; have c6b0 : (a0_0 == 8) = true := beq_iff_eq.mpr c6; have c6b1 : (a0_0 != 8) = false := bne_eq_false_iff_eq.mpr c6; clear c6; have H' := Aside0.mk H; clear H; have hcz7_0 : w3.cell? ⟨gb269, 0, none⟩ = some (.int .i64 a0_0) := (q5 BK269.out 0).trans rfl; have hcz7_1 : w3.cell? ⟨gb269, 1, none⟩ = some (.string a0_1) := (q5 BK269.out 1).trans rfl; have hcz7_2 : w3.cell? ⟨gb269, 2, none⟩ = some (.slice A0_2 l0_2.length c0_2) := (q5 BK269.out 2).trans rfl; have hfz7_0 := q11 BK269.out 0; have hfz7_1 := q11 BK269.out 1; have hfz7_2 := q11 BK269.out 2
        go_wp2
        go_meet
        case rel => exact ⟨_, (false), (by rfl), H', ⟨by omega⟩, ⟨by exact BK269.out⟩, ⟨by with_reducible exact HB.out⟩⟩
      · rw [if_neg c6] at H; have c6b0 : (a0_0 == 8) = false := beq_eq_false_iff_ne.mpr c6; have c6b1 : (a0_0 != 8) = true := bne_iff_ne.mpr c6; have H' := Aside0.mk H; clear H; have hcz8_0 : w3.cell? ⟨gb269, 0, none⟩ = some (.int .i64 a0_0) := (q5 BK269.out 0).trans rfl; have hcz8_1 : w3.cell? ⟨gb269, 1, none⟩ = some (.string a0_1) := (q5 BK269.out 1).trans rfl; have hcz8_2 : w3.cell? ⟨gb269, 2, none⟩ = some (.slice A0_2 l0_2.length c0_2) := (q5 BK269.out 2).trans rfl; have hfz8_0 := q11 BK269.out 0; have hfz8_1 := q11 BK269.out 1; have hfz8_2 := q11 BK269.out 2
        go_wp2
        go_meet
        case rel => exact ⟨_, (decide ((l0_2.length : Int) > 0)), (by (simp; done)), H', ⟨by omega⟩, ⟨by exact BK269.out⟩, ⟨by with_reducible exact HB.out⟩⟩
  case rest =>
    clear HC2
    try clear p2
    try clear c4
    try clear c4b0
    try clear c4b1
    try clear c6
    try clear c6b0
    try clear c6b1
    try clear hcz5_0
    try clear hcz5_1
    try clear hcz5_2
    try clear hcz7_0
    try clear hcz7_1
    try clear hcz7_2
    try clear hcz8_0
    try clear hcz8_1
    try clear hcz8_2
    try clear hfz5_0
    try clear hfz5_1
    try clear hfz5_2
    try clear hfz7_0
    try clear hfz7_1
    try clear hfz7_2
    try clear hfz8_0
    try clear hfz8_1
    try clear hfz8_2
    obtain ⟨kq, x16_1, rfl, HA, HJ1, BK269, HB⟩ := hcut
    cases kq with
    | zero => exact absurd HA.out (by simp [chiasmusref01_right.j0])
    | succ kj1 =>
      have H := HA.out; clear HA; simp only [chiasmusref01_right.j0] at H
      by_cases c9 : x16_1 = true
      · subst c9
        have H1 : (some false) = some r := by rw [if_pos rfl] at H; exact H
        clear H; have H := H1; clear H1; obtain rfl := Option.some.inj H
        go_wp2
        go_ret; exact ⟨by rfl, by with_reducible exact HB.out⟩
      · replace c9 := Bool.eq_false_iff.mpr c9; subst c9
        have H1 : (if a0_0 = 1 then (some ((a0_1.size : Int) == 1)) else (if a0_0 = 2 then ((chiasmusref01_IsWord.f kj1 a0_1).bind fun t270 => (some t270)) else (if a0_0 = 3 then ((chiasmusref01_IsNumber.f kj1 a0_1).bind fun t271 => (some t271)) else (if a0_0 = 4 then (some (a0_1.toList == ([] : List UInt8))) else (if a0_0 = 5 then (chiasmusref01_right.j1 kj1 a0_0 (a0_0 == 5) a0_0 a0_1 l0_2) else (if a0_0 = 6 then (chiasmusref01_right.j1 kj1 a0_0 (a0_0 == 6) a0_0 a0_1 l0_2) else (chiasmusref01_right.j1 kj1 a0_0 (a0_0 == 7) a0_0 a0_1 l0_2))))))) = some r := by rw [if_neg (show ¬ (false = true) by decide)] at H; exact H
        clear H; have H := H1; clear H1
        by_cases c10 : a0_0 = 1
        · rw [if_pos c10] at H; have c10b0 : (a0_0 == 1) = true := beq_iff_eq.mpr c10; have c10b1 : (a0_0 != 1) = false := bne_eq_false_iff_eq.mpr c10; clear c10; obtain rfl := Option.some.inj H; have hcz11_0 : wc.cell? ⟨gb269, 0, none⟩ = some (.int .i64 a0_0) := (q5 BK269.out 0).trans rfl; have hcz11_1 : wc.cell? ⟨gb269, 1, none⟩ = some (.string a0_1) := (q5 BK269.out 1).trans rfl; have hcz11_2 : wc.cell? ⟨gb269, 2, none⟩ = some (.slice A0_2 l0_2.length c0_2) := (q5 BK269.out 2).trans rfl; have hfz11_0 := q11 BK269.out 0; have hfz11_1 := q11 BK269.out 1; have hfz11_2 := q11 BK269.out 2
          go_wp2
          go_ret; exact ⟨by rfl, by with_reducible exact HB.out⟩
        · rw [if_neg c10] at H; have c10b0 : (a0_0 == 1) = false := beq_eq_false_iff_ne.mpr c10; have c10b1 : (a0_0 != 1) = true := bne_iff_ne.mpr c10
          by_cases c12 : a0_0 = 2
          · rw [if_pos c12] at H; have c12b0 : (a0_0 == 2) = true := beq_iff_eq.mpr c12; have c12b1 : (a0_0 != 2) = false := bne_eq_false_iff_eq.mpr c12; clear c12; replace H := Option.bind_eq_some_iff.mp H; obtain ⟨t270, A130, H⟩ := H; replace H : (some t270) = some r := H; have A13 := Aside0.mk A130; clear A130; obtain rfl := Option.some.inj H; have hcz14_0 : wc.cell? ⟨gb269, 0, none⟩ = some (.int .i64 a0_0) := (q5 BK269.out 0).trans rfl; have hcz14_1 : wc.cell? ⟨gb269, 1, none⟩ = some (.string a0_1) := (q5 BK269.out 1).trans rfl; have hcz14_2 : wc.cell? ⟨gb269, 2, none⟩ = some (.slice A0_2 l0_2.length c0_2) := (q5 BK269.out 2).trans rfl; have hfz14_0 := q11 BK269.out 0; have hfz14_1 := q11 BK269.out 1; have hfz14_2 := q11 BK269.out 2
            go_wp2_with (first | ((with_reducible refine q14 (f := 111) rfl ?_); refine goesL_ (some 29) rfl rfl Try.func111 (by kernel_rfl) rfl #[.string a0_1] rfl (by (try simp only [List.map_toArray, List.map_cons, List.map_nil]); rfl) ?_; (with_reducible refine (chiasmusref01_IsWord.calls kj1 a0_1 t270 _ A13.out).mono ?_); rintro e w' ⟨rfl, ⟨nd, rfl⟩⟩; refine ⟨_, rfl, ?_⟩))
            go_ret; exact ⟨by rfl, by repeat ((with_reducible first | exact HB.out | apply q15))⟩
          · rw [if_neg c12] at H; have c12b0 : (a0_0 == 2) = false := beq_eq_false_iff_ne.mpr c12; have c12b1 : (a0_0 != 2) = true := bne_iff_ne.mpr c12
            by_cases c15 : a0_0 = 3
            · rw [if_pos c15] at H; have c15b0 : (a0_0 == 3) = true := beq_iff_eq.mpr c15; have c15b1 : (a0_0 != 3) = false := bne_eq_false_iff_eq.mpr c15; clear c15; replace H := Option.bind_eq_some_iff.mp H; obtain ⟨t271, A160, H⟩ := H; replace H : (some t271) = some r := H; have A16 := Aside0.mk A160; clear A160; obtain rfl := Option.some.inj H; have hcz17_0 : wc.cell? ⟨gb269, 0, none⟩ = some (.int .i64 a0_0) := (q5 BK269.out 0).trans rfl; have hcz17_1 : wc.cell? ⟨gb269, 1, none⟩ = some (.string a0_1) := (q5 BK269.out 1).trans rfl; have hcz17_2 : wc.cell? ⟨gb269, 2, none⟩ = some (.slice A0_2 l0_2.length c0_2) := (q5 BK269.out 2).trans rfl; have hfz17_0 := q11 BK269.out 0; have hfz17_1 := q11 BK269.out 1; have hfz17_2 := q11 BK269.out 2
              go_wp2_with (first | ((with_reducible refine q14 (f := 112) rfl ?_); refine goesL_ (some 34) rfl rfl Try.func112 (by kernel_rfl) rfl #[.string a0_1] rfl (by (try simp only [List.map_toArray, List.map_cons, List.map_nil]); rfl) ?_; (with_reducible refine (chiasmusref01_IsNumber.calls kj1 a0_1 t271 _ A16.out).mono ?_); rintro e w' ⟨rfl, ⟨nd, rfl⟩⟩; refine ⟨_, rfl, ?_⟩))
              go_ret; exact ⟨by rfl, by repeat ((with_reducible first | exact HB.out | apply q15))⟩
            · rw [if_neg c15] at H; have c15b0 : (a0_0 == 3) = false := beq_eq_false_iff_ne.mpr c15; have c15b1 : (a0_0 != 3) = true := bne_iff_ne.mpr c15
              by_cases c18 : a0_0 = 4
              · rw [if_pos c18] at H; have c18b0 : (a0_0 == 4) = true := beq_iff_eq.mpr c18; have c18b1 : (a0_0 != 4) = false := bne_eq_false_iff_eq.mpr c18; clear c18; obtain rfl := Option.some.inj H; have hcz19_0 : wc.cell? ⟨gb269, 0, none⟩ = some (.int .i64 a0_0) := (q5 BK269.out 0).trans rfl; have hcz19_1 : wc.cell? ⟨gb269, 1, none⟩ = some (.string a0_1) := (q5 BK269.out 1).trans rfl; have hcz19_2 : wc.cell? ⟨gb269, 2, none⟩ = some (.slice A0_2 l0_2.length c0_2) := (q5 BK269.out 2).trans rfl; have hfz19_0 := q11 BK269.out 0; have hfz19_1 := q11 BK269.out 1; have hfz19_2 := q11 BK269.out 2
                go_wp2
                go_ret; exact ⟨by rfl, by with_reducible exact HB.out⟩
              · rw [if_neg c18] at H; have c18b0 : (a0_0 == 4) = false := beq_eq_false_iff_ne.mpr c18; have c18b1 : (a0_0 != 4) = true := bne_iff_ne.mpr c18; have HC20 := Aside0.mk H; clear H; have hcz21_0 : wc.cell? ⟨gb269, 0, none⟩ = some (.int .i64 a0_0) := (q5 BK269.out 0).trans rfl; have hcz21_1 : wc.cell? ⟨gb269, 1, none⟩ = some (.string a0_1) := (q5 BK269.out 1).trans rfl; have hcz21_2 : wc.cell? ⟨gb269, 2, none⟩ = some (.slice A0_2 l0_2.length c0_2) := (q5 BK269.out 2).trans rfl; have hfz21_0 := q11 BK269.out 0; have hfz21_1 := q11 BK269.out 1; have hfz21_2 := q11 BK269.out 2
                go_upto_if 40 with (fail)
                go_cut [40] (fun v40 wc => ∃ (kq : Nat) (x40_19 : Bool), v40 = .bool x40_19 ∧ Aside0 (chiasmusref01_right.j1 kq a0_0 x40_19 a0_0 a0_1 l0_2 = some r) ∧ Aside0 (kq ≤ kj1) ∧ Aside0 (wc.heap[gb269]? = some (.cells #[.int .i64 a0_0, .string a0_1, (.slice A0_2 l0_2.length c0_2)] 44 (0, 0))) ∧ Aside0 (Below w.heap.size w wc))
                case first =>
                  have H := HC20.out; clear HC20
                  by_cases c22 : a0_0 = 5
                  · rw [if_pos c22] at H; have c22b0 : (a0_0 == 5) = true := beq_iff_eq.mpr c22; have c22b1 : (a0_0 != 5) = false := bne_eq_false_iff_eq.mpr c22; clear c22
                    (rw [c22b0])
                    have H' := Aside0.mk H; clear H
                    go_wp2
                    go_meet
                    case rel => exact ⟨_, ((a0_0 == 5)), (by (simp [*]; done)), H', ⟨by have := HJ1.out; omega⟩, ⟨by exact BK269.out⟩, ⟨by with_reducible exact HB.out⟩⟩
                  · rw [if_neg c22] at H; have c22b0 : (a0_0 == 5) = false := beq_eq_false_iff_ne.mpr c22; have c22b1 : (a0_0 != 5) = true := bne_iff_ne.mpr c22
                    (rw [c22b0])
                    by_cases c23 : a0_0 = 6
                    · rw [if_pos c23] at H; have c23b0 : (a0_0 == 6) = true := beq_iff_eq.mpr c23; have c23b1 : (a0_0 != 6) = false := bne_eq_false_iff_eq.mpr c23; clear c23; have H' := Aside0.mk H; clear H
                      go_wp2
                      go_meet
                      case rel => exact ⟨_, ((a0_0 == 6)), (by (simp [*]; done)), H', ⟨by have := HJ1.out; omega⟩, ⟨by exact BK269.out⟩, ⟨by with_reducible exact HB.out⟩⟩
                    · rw [if_neg c23] at H; have c23b0 : (a0_0 == 6) = false := beq_eq_false_iff_ne.mpr c23; have c23b1 : (a0_0 != 6) = true := bne_iff_ne.mpr c23; have H' := Aside0.mk H; clear H
                      go_wp2
                      go_meet
                      case rel => exact ⟨_, ((a0_0 == 7)), (by rfl), H', ⟨by have := HJ1.out; omega⟩, ⟨by exact BK269.out⟩, ⟨by with_reducible exact HB.out⟩⟩
                case rest =>
                  clear HC20
                  try clear c1
                  try clear c2
                  try clear p2
                  try clear c4
                  try clear c4b0
                  try clear c4b1
                  try clear c6
                  try clear c6b0
                  try clear c6b1
                  try clear c9
                  try clear c10
                  try clear c10b0
                  try clear c10b1
                  try clear c11
                  try clear c12
                  try clear c12b0
                  try clear c12b1
                  try clear c15
                  try clear c15b0
                  try clear c15b1
                  try clear c18
                  try clear c18b0
                  try clear c18b1
                  try clear c22
                  try clear c22b0
                  try clear c22b1
                  try clear c23
                  try clear c23b0
                  try clear c23b1
                  try clear hcz11_0
                  try clear hcz11_1
                  try clear hcz11_2
                  try clear hcz14_0
                  try clear hcz14_1
                  try clear hcz14_2
                  try clear hcz17_0
                  try clear hcz17_1
                  try clear hcz17_2
                  try clear hcz19_0
                  try clear hcz19_1
                  try clear hcz19_2
                  try clear hcz21_0
                  try clear hcz21_1
                  try clear hcz21_2
                  try clear hcz5_0
                  try clear hcz5_1
                  try clear hcz5_2
                  try clear hcz7_0
                  try clear hcz7_1
                  try clear hcz7_2
                  try clear hcz8_0
                  try clear hcz8_1
                  try clear hcz8_2
                  try clear hfz11_0
                  try clear hfz11_1
                  try clear hfz11_2
                  try clear hfz14_0
                  try clear hfz14_1
                  try clear hfz14_2
                  try clear hfz17_0
                  try clear hfz17_1
                  try clear hfz17_2
                  try clear hfz19_0
                  try clear hfz19_1
                  try clear hfz19_2
                  try clear hfz21_0
                  try clear hfz21_1
                  try clear hfz21_2
                  try clear hfz5_0
                  try clear hfz5_1
                  try clear hfz5_2
                  try clear hfz7_0
                  try clear hfz7_1
                  try clear hfz7_2
                  try clear hfz8_0
                  try clear hfz8_1
                  try clear hfz8_2
                  try clear p2
                  obtain ⟨kq, x40_19, rfl, HA, HJ19, BK269, HB⟩ := hcut
                  cases kq with
                  | zero => exact absurd HA.out (by simp [chiasmusref01_right.j1])
                  | succ kj19 =>
                    have H := HA.out; clear HA; simp only [chiasmusref01_right.j1] at H
                    by_cases c24 : x40_19 = true
                    · subst c24
                      have H1 : ((chiasmusref01_IsVar.f kj19 a0_1).bind fun t272 => (some t272)) = some r := by rw [if_pos rfl] at H; exact H
                      clear H; have H := H1; clear H1; replace H := Option.bind_eq_some_iff.mp H; obtain ⟨t272, A250, H⟩ := H; replace H : (some t272) = some r := H; have A25 := Aside0.mk A250; clear A250; obtain rfl := Option.some.inj H; have hcz26_0 : wc.cell? ⟨gb269, 0, none⟩ = some (.int .i64 a0_0) := (q5 BK269.out 0).trans rfl; have hcz26_1 : wc.cell? ⟨gb269, 1, none⟩ = some (.string a0_1) := (q5 BK269.out 1).trans rfl; have hcz26_2 : wc.cell? ⟨gb269, 2, none⟩ = some (.slice A0_2 l0_2.length c0_2) := (q5 BK269.out 2).trans rfl; have hfz26_0 := q11 BK269.out 0; have hfz26_1 := q11 BK269.out 1; have hfz26_2 := q11 BK269.out 2
                      go_wp2_with (first | ((with_reducible refine q14 (f := 113) rfl ?_); refine goesL_ (some 46) rfl rfl Try.func113 (by kernel_rfl) rfl #[.string a0_1] rfl (by (try simp only [List.map_toArray, List.map_cons, List.map_nil]); rfl) ?_; (with_reducible refine (chiasmusref01_IsVar.calls kj19 a0_1 t272 _ A25.out).mono ?_); rintro e w' ⟨rfl, ⟨nd, rfl⟩⟩; refine ⟨_, rfl, ?_⟩))
                      go_ret; exact ⟨by rfl, by repeat ((with_reducible first | exact HB.out | apply q15))⟩
                    · replace c24 := Bool.eq_false_iff.mpr c24; subst c24
                      have H1 : (if a0_0 = 8 then ((chiasmusref01_IsName.f kj19 a0_1 40).bind fun t273 => (some t273)) else (some false)) = some r := by rw [if_neg (show ¬ (false = true) by decide)] at H; exact H
                      clear H; have H := H1; clear H1
                      by_cases c27 : a0_0 = 8
                      · rw [if_pos c27] at H; have c27b0 : (a0_0 == 8) = true := beq_iff_eq.mpr c27; have c27b1 : (a0_0 != 8) = false := bne_eq_false_iff_eq.mpr c27; clear c27; replace H := Option.bind_eq_some_iff.mp H; obtain ⟨t273, A280, H⟩ := H; replace H : (some t273) = some r := H; have A28 := Aside0.mk A280; clear A280; obtain rfl := Option.some.inj H; have hcz29_0 : wc.cell? ⟨gb269, 0, none⟩ = some (.int .i64 a0_0) := (q5 BK269.out 0).trans rfl; have hcz29_1 : wc.cell? ⟨gb269, 1, none⟩ = some (.string a0_1) := (q5 BK269.out 1).trans rfl; have hcz29_2 : wc.cell? ⟨gb269, 2, none⟩ = some (.slice A0_2 l0_2.length c0_2) := (q5 BK269.out 2).trans rfl; have hfz29_0 := q11 BK269.out 0; have hfz29_1 := q11 BK269.out 1; have hfz29_2 := q11 BK269.out 2
                        go_wp2_with (first | ((with_reducible refine q14 (f := 114) rfl ?_); refine goesL_ (some 51) rfl rfl Try.func114 (by kernel_rfl) rfl #[.string a0_1, .int .i64 40] rfl (by (try simp only [List.map_toArray, List.map_cons, List.map_nil]); rfl) ?_; (with_reducible refine (chiasmusref01_IsName.calls kj19 a0_1 40 t273 _ A28.out).mono ?_); rintro e w' ⟨rfl, ⟨nd, rfl⟩⟩; refine ⟨_, rfl, ?_⟩))
                        go_ret; exact ⟨by rfl, by repeat ((with_reducible first | exact HB.out | apply q15))⟩
                      · rw [if_neg c27] at H; have c27b0 : (a0_0 == 8) = false := beq_eq_false_iff_ne.mpr c27; have c27b1 : (a0_0 != 8) = true := bne_iff_ne.mpr c27; obtain rfl := Option.some.inj H
                        go_wp2
                        go_ret; exact ⟨by rfl, by with_reducible exact HB.out⟩
mutual
def chiasmusref01_form.l0 : Nat → List (S44) → Int → Int → Option (Bool)
  | 0, _, _, _ => none
  | k + 1, x0, x1, x5 => if x5 < (x0.length : Int) then (if 0 ≤ x5 then ((chiasmusref01_right.f k ((rd_T44 x0 x5).f0) ((rd_T44 x0 x5).f1) ((rd_T44 x0 x5).f2)).bind fun t275 => (if t275 = true then (if ((rd_T44 x0 x5).f0) > x1 then (some false) else ((chiasmusref01_form.f k ((rd_T44 x0 x5).f2) x1).bind fun t278 => (if t278 = true then (chiasmusref01_form.l0 k x0 x1 (wrap64 (x5 + 1))) else (some false)))) else (some false))) else (none)) else (some true)
def chiasmusref01_form.f : Nat → List (S44) → Int → Option (Bool)
  | 0, _, _ => none
  | k + 1, l0, a1 => chiasmusref01_form.l0 k l0 a1 0
end
set_option maxHeartbeats 8000000 in
set_option maxRecDepth 100000 in
theorem chiasmusref01_form.calls (k : Nat) : ∀ (A0 : Option Addr) (c0 : Nat) (l0 : List (S44)) (a1 : Int) (r : Bool) (w : World) (hr0 : Kd.C k44 w A0 l0.length l0) (hc0 : l0.length ≤ c0) (h : chiasmusref01_form.f k l0 a1 = some r),
    Calls Try.prog 80 #[.slice A0 l0.length c0, .int .i64 a1] w fun e w' => e = .returned (.bool r) ∧ Below w.heap.size w w' := by
  induction k using Nat.strongRecOn with
  | _ k ih =>
  intro A0 c0 l0 a1 r w hr0 hc0 h
  cases k with
  | zero => exact absurd h (by simp [chiasmusref01_form.f])
  | succ k =>
  simp only [chiasmusref01_form.f] at h; have hu44 := Try.underlying44; have HR0 := Aside0.mk hr0; have HC0 := Aside0.mk hc0; clear hr0 hc0; have HB := Aside0.mk (Below.refl w.heap.size w); have H : (chiasmusref01_form.l0 k l0 a1 0) = some r := h; clear h; have H' := Aside0.mk H; clear H
  go_enter Try.func80, Try.ntmps80
  go_wp2
  go_loopg [5] k (fun kq v5 w' => ∃ (x5_1 : Int), v5 = .int .i64 x5_1 ∧ Aside0 (chiasmusref01_form.l0 kq l0 a1 x5_1 = some r) ∧ Aside0 (kq ≤ k) ∧ Aside0 (Below w.heap.size w w'))
  case atStart => exact ⟨(0), (by rfl), H', ⟨Nat.le_refl _⟩, ⟨by with_reducible exact HB.out⟩⟩
  case round =>
    clear H'
    try clear p2
    obtain ⟨x5_1, rfl, HA, HK1, HB⟩ := hrel
    cases gk with
    | zero => exact absurd HA.out (by simp [chiasmusref01_form.l0])
    | succ k1 =>
      have H := HA.out; clear HA; simp only [chiasmusref01_form.l0] at H
      by_cases c3 : x5_1 < (l0.length : Int)
      · rw [if_pos c3] at H; have c3b0 : decide (x5_1 < (l0.length : Int)) = true := decide_eq_true c3; clear c3
        by_cases c4 : 0 ≤ x5_1
        · rw [if_pos c4] at H; have c4b0 : decide (0 ≤ x5_1) = true := decide_eq_true c4; clear c4; replace H := Option.bind_eq_some_iff.mp H; obtain ⟨t275, A50, H⟩ := H; replace H : (if t275 = true then (if ((rd_T44 l0 x5_1).f0) > a1 then (some false) else ((chiasmusref01_form.f k1 ((rd_T44 l0 x5_1).f2) a1).bind fun t278 => (if t278 = true then (chiasmusref01_form.l0 k1 l0 a1 (wrap64 (x5_1 + 1))) else (some false)))) else (some false)) = some r := H; have A5 := Aside0.mk A50; clear A50
          by_cases c6 : t275 = true
          · subst c6
            have H1 : (if ((rd_T44 l0 x5_1).f0) > a1 then (some false) else ((chiasmusref01_form.f k1 ((rd_T44 l0 x5_1).f2) a1).bind fun t278 => (if t278 = true then (chiasmusref01_form.l0 k1 l0 a1 (wrap64 (x5_1 + 1))) else (some false)))) = some r := by rw [if_pos rfl] at H; exact H
            clear H; have H := H1; clear H1
            by_cases c7 : ((rd_T44 l0 x5_1).f0) > a1
            · rw [if_pos c7] at H; have c7b0 : decide (a1 < ((rd_T44 l0 x5_1).f0)) = true := decide_eq_true c7; clear c7; obtain rfl := Option.some.inj H; have p274 : 0 ≤ (x5_1 : Int) := of_decide_eq_true (by (with_reducible assumption)); have q274 : x5_1 < (l0.length : Int) := of_decide_eq_true (by (with_reducible assumption)); obtain ⟨ad274, A274_2, c274_2, e274, hx274_0, hx274_1, hx274_2, hl274_2, hi274_2⟩ := at_T44 HR0.out x5_1 p274 q274; cases e274; replace hx274_0 := (HB.out.cell (World.block_lt_of_cell? w _ hx274_0)).trans hx274_0; replace hx274_1 := (HB.out.cell (World.block_lt_of_cell? w _ hx274_1)).trans hx274_1; replace hx274_2 := (HB.out.cell (World.block_lt_of_cell? w _ hx274_2)).trans hx274_2; have HR274_2 := Aside0.mk hi274_2; have HC274_2 := Aside0.mk hl274_2; clear hi274_2 hl274_2; replace p274 := eq_true p274; replace q274 := eq_true q274
              go_wp2_with (first | ((with_reducible refine q14 (f := 97) rfl ?_); refine goesL_ (some 16) rfl rfl Try.func97 (by kernel_rfl) rfl #[.agg #[.int .i64 ((rd_T44 l0 x5_1).f0), .string ((rd_T44 l0 x5_1).f1), .slice A274_2 ((rd_T44 l0 x5_1).f2).length c274_2]] rfl (by (try simp only [List.map_toArray, List.map_cons, List.map_nil]); rfl) ?_; (with_reducible refine (chiasmusref01_right.calls k1 ((rd_T44 l0 x5_1).f0) ((rd_T44 l0 x5_1).f1) _ _ ((rd_T44 l0 x5_1).f2) true _ ?side1 ?side2 A5.out).mono ?_); (case side1 => repeat (exact (Kd.C_below HR274_2.out HB.out))); (case side2 => exact HC274_2.out); rintro e w8 ⟨rfl, hb⟩; refine ⟨_, rfl, ?_⟩; have n0_ := Aside0.mk (q10 (by with_reducible exact HB.out) hb); clear HB; have HB := n0_; clear n0_; (try clear hb); (try clear hb2); (try clear hk); (try clear hi); have p276 : 0 ≤ (x5_1 : Int) := of_decide_eq_true (by (with_reducible assumption)); have q276 : x5_1 < (l0.length : Int) := of_decide_eq_true (by (with_reducible assumption)); obtain ⟨ad276, A276_2, c276_2, e276, hx276_0, hx276_1, hx276_2, hl276_2, hi276_2⟩ := at_T44 HR0.out x5_1 p276 q276; obtain rfl : ad274 = ad276 := (by injection e276); replace hx276_0 := (HB.out.cell (World.block_lt_of_cell? w _ hx276_0)).trans hx276_0; replace hx276_1 := (HB.out.cell (World.block_lt_of_cell? w _ hx276_1)).trans hx276_1; replace hx276_2 := (HB.out.cell (World.block_lt_of_cell? w _ hx276_2)).trans hx276_2; have HR276_2 := Aside0.mk hi276_2; have HC276_2 := Aside0.mk hl276_2; clear hi276_2 hl276_2; replace p276 := eq_true p276; replace q276 := eq_true q276))
              go_ret; exact ⟨by rfl, by with_reducible exact HB.out⟩
            · rw [if_neg c7] at H; have c7b0 : decide (a1 < ((rd_T44 l0 x5_1).f0)) = false := decide_eq_false c7; clear c7; replace H := Option.bind_eq_some_iff.mp H; obtain ⟨t278, A90, H⟩ := H; replace H : (if t278 = true then (chiasmusref01_form.l0 k1 l0 a1 (wrap64 (x5_1 + 1))) else (some false)) = some r := H; have A9 := Aside0.mk A90; clear A90
              by_cases c10 : t278 = true
              · subst c10
                have H1 : (chiasmusref01_form.l0 k1 l0 a1 (wrap64 (x5_1 + 1))) = some r := by rw [if_pos rfl] at H; exact H
                clear H; have H := H1; clear H1; have H' := Aside0.mk H; clear H; have p274 : 0 ≤ (x5_1 : Int) := of_decide_eq_true (by (with_reducible assumption)); have q274 : x5_1 < (l0.length : Int) := of_decide_eq_true (by (with_reducible assumption)); obtain ⟨ad274, A274_2, c274_2, e274, hx274_0, hx274_1, hx274_2, hl274_2, hi274_2⟩ := at_T44 HR0.out x5_1 p274 q274; cases e274; replace hx274_0 := (HB.out.cell (World.block_lt_of_cell? w _ hx274_0)).trans hx274_0; replace hx274_1 := (HB.out.cell (World.block_lt_of_cell? w _ hx274_1)).trans hx274_1; replace hx274_2 := (HB.out.cell (World.block_lt_of_cell? w _ hx274_2)).trans hx274_2; have HR274_2 := Aside0.mk hi274_2; have HC274_2 := Aside0.mk hl274_2; clear hi274_2 hl274_2; replace p274 := eq_true p274; replace q274 := eq_true q274
                go_wp2_with (first | ((with_reducible refine q14 (f := 97) rfl ?_); refine goesL_ (some 16) rfl rfl Try.func97 (by kernel_rfl) rfl #[.agg #[.int .i64 ((rd_T44 l0 x5_1).f0), .string ((rd_T44 l0 x5_1).f1), .slice A274_2 ((rd_T44 l0 x5_1).f2).length c274_2]] rfl (by (try simp only [List.map_toArray, List.map_cons, List.map_nil]); rfl) ?_; (with_reducible refine (chiasmusref01_right.calls k1 ((rd_T44 l0 x5_1).f0) ((rd_T44 l0 x5_1).f1) _ _ ((rd_T44 l0 x5_1).f2) true _ ?side1 ?side2 A5.out).mono ?_); (case side1 => repeat (exact (Kd.C_below HR274_2.out HB.out))); (case side2 => exact HC274_2.out); rintro e w11 ⟨rfl, hb⟩; refine ⟨_, rfl, ?_⟩; have n0_ := Aside0.mk (q10 (by with_reducible exact HB.out) hb); clear HB; have HB := n0_; clear n0_; (try clear hb); (try clear hb2); (try clear hk); (try clear hi); have p276 : 0 ≤ (x5_1 : Int) := of_decide_eq_true (by (with_reducible assumption)); have q276 : x5_1 < (l0.length : Int) := of_decide_eq_true (by (with_reducible assumption)); obtain ⟨ad276, A276_2, c276_2, e276, hx276_0, hx276_1, hx276_2, hl276_2, hi276_2⟩ := at_T44 HR0.out x5_1 p276 q276; obtain rfl : ad274 = ad276 := (by injection e276); replace hx276_0 := (HB.out.cell (World.block_lt_of_cell? w _ hx276_0)).trans hx276_0; replace hx276_1 := (HB.out.cell (World.block_lt_of_cell? w _ hx276_1)).trans hx276_1; replace hx276_2 := (HB.out.cell (World.block_lt_of_cell? w _ hx276_2)).trans hx276_2; have HR276_2 := Aside0.mk hi276_2; have HC276_2 := Aside0.mk hl276_2; clear hi276_2 hl276_2; replace p276 := eq_true p276; replace q276 := eq_true q276; have p277 : 0 ≤ (x5_1 : Int) := of_decide_eq_true (by (with_reducible assumption)); have q277 : x5_1 < (l0.length : Int) := of_decide_eq_true (by (with_reducible assumption)); obtain ⟨ad277, A277_2, c277_2, e277, hx277_0, hx277_1, hx277_2, hl277_2, hi277_2⟩ := at_T44 HR0.out x5_1 p277 q277; obtain rfl : ad274 = ad277 := (by injection e277); replace hx277_0 := (HB.out.cell (World.block_lt_of_cell? w _ hx277_0)).trans hx277_0; replace hx277_1 := (HB.out.cell (World.block_lt_of_cell? w _ hx277_1)).trans hx277_1; replace hx277_2 := (HB.out.cell (World.block_lt_of_cell? w _ hx277_2)).trans hx277_2; have HR277_2 := Aside0.mk hi277_2; have HC277_2 := Aside0.mk hl277_2; clear hi277_2 hl277_2; replace p277 := eq_true p277; replace q277 := eq_true q277; have ea_ := Option.some.inj (hx276_2.symm.trans hx277_2); injection ea_ with ea_ en_ ec_; subst ea_; subst ec_; clear en_) | (go_at_call 80; (with_reducible refine (ih k1 (by have := HK1.out; omega) _ _ ((rd_T44 l0 x5_1).f2) a1 true _ ?side1 ?side2 A9.out).mono ?_); (case side1 => repeat (exact (Kd.C_below HR277_2.out HB.out))); (case side2 => exact HC277_2.out); rintro e w12 ⟨rfl, hb⟩; have n0_ := Aside0.mk (q10 (by with_reducible exact HB.out) hb); clear HB; have HB := n0_; clear n0_; (try clear hb); (try clear hb2); (try clear hk); (try clear hi)))
                go_roundg k1
                case measure => have := HK1.out; omega
                case rel => exact ⟨(wrap64 (x5_1 + 1)), (by rfl), H', ⟨by have := HK1.out; omega⟩, ⟨by with_reducible exact HB.out⟩⟩
              · replace c10 := Bool.eq_false_iff.mpr c10; subst c10
                have H1 : (some false) = some r := by rw [if_neg (show ¬ (false = true) by decide)] at H; exact H
                clear H; have H := H1; clear H1; obtain rfl := Option.some.inj H; have p274 : 0 ≤ (x5_1 : Int) := of_decide_eq_true (by (with_reducible assumption)); have q274 : x5_1 < (l0.length : Int) := of_decide_eq_true (by (with_reducible assumption)); obtain ⟨ad274, A274_2, c274_2, e274, hx274_0, hx274_1, hx274_2, hl274_2, hi274_2⟩ := at_T44 HR0.out x5_1 p274 q274; cases e274; replace hx274_0 := (HB.out.cell (World.block_lt_of_cell? w _ hx274_0)).trans hx274_0; replace hx274_1 := (HB.out.cell (World.block_lt_of_cell? w _ hx274_1)).trans hx274_1; replace hx274_2 := (HB.out.cell (World.block_lt_of_cell? w _ hx274_2)).trans hx274_2; have HR274_2 := Aside0.mk hi274_2; have HC274_2 := Aside0.mk hl274_2; clear hi274_2 hl274_2; replace p274 := eq_true p274; replace q274 := eq_true q274
                go_wp2_with (first | ((with_reducible refine q14 (f := 97) rfl ?_); refine goesL_ (some 16) rfl rfl Try.func97 (by kernel_rfl) rfl #[.agg #[.int .i64 ((rd_T44 l0 x5_1).f0), .string ((rd_T44 l0 x5_1).f1), .slice A274_2 ((rd_T44 l0 x5_1).f2).length c274_2]] rfl (by (try simp only [List.map_toArray, List.map_cons, List.map_nil]); rfl) ?_; (with_reducible refine (chiasmusref01_right.calls k1 ((rd_T44 l0 x5_1).f0) ((rd_T44 l0 x5_1).f1) _ _ ((rd_T44 l0 x5_1).f2) true _ ?side1 ?side2 A5.out).mono ?_); (case side1 => repeat (exact (Kd.C_below HR274_2.out HB.out))); (case side2 => exact HC274_2.out); rintro e w13 ⟨rfl, hb⟩; refine ⟨_, rfl, ?_⟩; have n0_ := Aside0.mk (q10 (by with_reducible exact HB.out) hb); clear HB; have HB := n0_; clear n0_; (try clear hb); (try clear hb2); (try clear hk); (try clear hi); have p276 : 0 ≤ (x5_1 : Int) := of_decide_eq_true (by (with_reducible assumption)); have q276 : x5_1 < (l0.length : Int) := of_decide_eq_true (by (with_reducible assumption)); obtain ⟨ad276, A276_2, c276_2, e276, hx276_0, hx276_1, hx276_2, hl276_2, hi276_2⟩ := at_T44 HR0.out x5_1 p276 q276; obtain rfl : ad274 = ad276 := (by injection e276); replace hx276_0 := (HB.out.cell (World.block_lt_of_cell? w _ hx276_0)).trans hx276_0; replace hx276_1 := (HB.out.cell (World.block_lt_of_cell? w _ hx276_1)).trans hx276_1; replace hx276_2 := (HB.out.cell (World.block_lt_of_cell? w _ hx276_2)).trans hx276_2; have HR276_2 := Aside0.mk hi276_2; have HC276_2 := Aside0.mk hl276_2; clear hi276_2 hl276_2; replace p276 := eq_true p276; replace q276 := eq_true q276; have p277 : 0 ≤ (x5_1 : Int) := of_decide_eq_true (by (with_reducible assumption)); have q277 : x5_1 < (l0.length : Int) := of_decide_eq_true (by (with_reducible assumption)); obtain ⟨ad277, A277_2, c277_2, e277, hx277_0, hx277_1, hx277_2, hl277_2, hi277_2⟩ := at_T44 HR0.out x5_1 p277 q277; obtain rfl : ad274 = ad277 := (by injection e277); replace hx277_0 := (HB.out.cell (World.block_lt_of_cell? w _ hx277_0)).trans hx277_0; replace hx277_1 := (HB.out.cell (World.block_lt_of_cell? w _ hx277_1)).trans hx277_1; replace hx277_2 := (HB.out.cell (World.block_lt_of_cell? w _ hx277_2)).trans hx277_2; have HR277_2 := Aside0.mk hi277_2; have HC277_2 := Aside0.mk hl277_2; clear hi277_2 hl277_2; replace p277 := eq_true p277; replace q277 := eq_true q277; have ea_ := Option.some.inj (hx276_2.symm.trans hx277_2); injection ea_ with ea_ en_ ec_; subst ea_; subst ec_; clear en_) | (go_at_call 80; (with_reducible refine (ih k1 (by have := HK1.out; omega) _ _ ((rd_T44 l0 x5_1).f2) a1 false _ ?side1 ?side2 A9.out).mono ?_); (case side1 => repeat (exact (Kd.C_below HR277_2.out HB.out))); (case side2 => exact HC277_2.out); rintro e w14 ⟨rfl, hb⟩; have n0_ := Aside0.mk (q10 (by with_reducible exact HB.out) hb); clear HB; have HB := n0_; clear n0_; (try clear hb); (try clear hb2); (try clear hk); (try clear hi)))
                go_ret; exact ⟨by rfl, by with_reducible exact HB.out⟩
          · replace c6 := Bool.eq_false_iff.mpr c6; subst c6
            have H1 : (some false) = some r := by rw [if_neg (show ¬ (false = true) by decide)] at H; exact H
            clear H; have H := H1; clear H1; obtain rfl := Option.some.inj H; have p274 : 0 ≤ (x5_1 : Int) := of_decide_eq_true (by (with_reducible assumption)); have q274 : x5_1 < (l0.length : Int) := of_decide_eq_true (by (with_reducible assumption)); obtain ⟨ad274, A274_2, c274_2, e274, hx274_0, hx274_1, hx274_2, hl274_2, hi274_2⟩ := at_T44 HR0.out x5_1 p274 q274; cases e274; replace hx274_0 := (HB.out.cell (World.block_lt_of_cell? w _ hx274_0)).trans hx274_0; replace hx274_1 := (HB.out.cell (World.block_lt_of_cell? w _ hx274_1)).trans hx274_1; replace hx274_2 := (HB.out.cell (World.block_lt_of_cell? w _ hx274_2)).trans hx274_2; have HR274_2 := Aside0.mk hi274_2; have HC274_2 := Aside0.mk hl274_2; clear hi274_2 hl274_2; replace p274 := eq_true p274; replace q274 := eq_true q274
            go_wp2_with (first | ((with_reducible refine q14 (f := 97) rfl ?_); refine goesL_ (some 16) rfl rfl Try.func97 (by kernel_rfl) rfl #[.agg #[.int .i64 ((rd_T44 l0 x5_1).f0), .string ((rd_T44 l0 x5_1).f1), .slice A274_2 ((rd_T44 l0 x5_1).f2).length c274_2]] rfl (by (try simp only [List.map_toArray, List.map_cons, List.map_nil]); rfl) ?_; (with_reducible refine (chiasmusref01_right.calls k1 ((rd_T44 l0 x5_1).f0) ((rd_T44 l0 x5_1).f1) _ _ ((rd_T44 l0 x5_1).f2) false _ ?side1 ?side2 A5.out).mono ?_); (case side1 => repeat (exact (Kd.C_below HR274_2.out HB.out))); (case side2 => exact HC274_2.out); rintro e w15 ⟨rfl, hb⟩; refine ⟨_, rfl, ?_⟩; have n0_ := Aside0.mk (q10 (by with_reducible exact HB.out) hb); clear HB; have HB := n0_; clear n0_; (try clear hb); (try clear hb2); (try clear hk); (try clear hi)))
            go_ret; exact ⟨by rfl, by with_reducible exact HB.out⟩
        · rw [if_neg c4] at H; exact absurd H (by simp)
      · rw [if_neg c3] at H; have c3b0 : decide (x5_1 < (l0.length : Int)) = false := decide_eq_false c3; clear c3; obtain rfl := Option.some.inj H
        go_wp2
        go_ret; exact ⟨by rfl, by with_reducible exact HB.out⟩
def chiasmusref01_wrong.f (k : Nat) (l0 : List (S44)) (a1 : Int) : Option (Int) := (chiasmusref01_Size.f k l0).bind fun bt279 => (if bt279.1 > 4000 then (some 5) else (if bt279.2 > 100 then (some 6) else ((chiasmusref01_form.f k l0 a1).bind fun t281 => (if t281 = true then (some 0) else (some 2)))))
set_option maxHeartbeats 8000000 in
set_option maxRecDepth 100000 in
theorem chiasmusref01_wrong.calls (k : Nat) (A0 : Option Addr) (c0 : Nat) (l0 : List (S44)) (a1 : Int) (r : Int) (w : World) (hr0 : Kd.C k44 w A0 l0.length l0) (hc0 : l0.length ≤ c0) (h : chiasmusref01_wrong.f k l0 a1 = some r) :
    Calls Try.prog 55 #[.slice A0 l0.length c0, .int .i64 a1] w fun e w' => e = .returned (.int .i64 r) ∧ Below w.heap.size w w' := by
  have HR0 := Aside0.mk hr0; have HC0 := Aside0.mk hc0; clear hr0 hc0; have HB := Aside0.mk (Below.refl w.heap.size w); have H : ((chiasmusref01_Size.f k l0).bind fun bt279 => (if bt279.1 > 4000 then (some 5) else (if bt279.2 > 100 then (some 6) else ((chiasmusref01_form.f k l0 a1).bind fun t281 => (if t281 = true then (some 0) else (some 2)))))) = some r := h; clear h; replace H := Option.bind_eq_some_iff.mp H; obtain ⟨⟨t279, t280⟩, A30, H⟩ := H; replace H : (if t279 > 4000 then (some 5) else (if t280 > 100 then (some 6) else ((chiasmusref01_form.f k l0 a1).bind fun t281 => (if t281 = true then (some 0) else (some 2))))) = some r := H; have A3 := Aside0.mk A30; clear A30
  by_cases c4 : t279 > 4000
  · rw [if_pos c4] at H; have c4b0 : decide (4000 < t279) = true := decide_eq_true c4; clear c4; obtain rfl := Option.some.inj H
    go_enter Try.func55, Try.ntmps55
    go_wp2_with (first | ((with_reducible refine q14 (f := 58) rfl ?_); refine goesL_ (some 9) rfl rfl Try.func58 (by kernel_rfl) rfl #[.slice A0 l0.length c0] rfl (by (try simp only [List.map_toArray, List.map_cons, List.map_nil]); rfl) ?_; (with_reducible refine (chiasmusref01_Size.calls k _ _ l0 t279 t280 _ ?side1 ?side2 A3.out).mono ?_); (case side1 => repeat (exact HR0.out)); (case side2 => exact HC0.out); rintro e w5 ⟨rfl, hb⟩; refine ⟨_, rfl, ?_⟩; have n0_ := Aside0.mk (q10 (by with_reducible exact HB.out) hb); clear HB; have HB := n0_; clear n0_; (try clear hb); (try clear hb2); (try clear hk); (try clear hi)))
    go_ret; exact ⟨by rfl, by with_reducible exact HB.out⟩
  · rw [if_neg c4] at H; have c4b0 : decide (4000 < t279) = false := decide_eq_false c4; clear c4
    by_cases c6 : t280 > 100
    · rw [if_pos c6] at H; have c6b0 : decide (100 < t280) = true := decide_eq_true c6; clear c6; obtain rfl := Option.some.inj H
      go_enter Try.func55, Try.ntmps55
      go_wp2_with (first | ((with_reducible refine q14 (f := 58) rfl ?_); refine goesL_ (some 9) rfl rfl Try.func58 (by kernel_rfl) rfl #[.slice A0 l0.length c0] rfl (by (try simp only [List.map_toArray, List.map_cons, List.map_nil]); rfl) ?_; (with_reducible refine (chiasmusref01_Size.calls k _ _ l0 t279 t280 _ ?side1 ?side2 A3.out).mono ?_); (case side1 => repeat (exact HR0.out)); (case side2 => exact HC0.out); rintro e w7 ⟨rfl, hb⟩; refine ⟨_, rfl, ?_⟩; have n0_ := Aside0.mk (q10 (by with_reducible exact HB.out) hb); clear HB; have HB := n0_; clear n0_; (try clear hb); (try clear hb2); (try clear hk); (try clear hi)))
      go_ret; exact ⟨by rfl, by with_reducible exact HB.out⟩
    · rw [if_neg c6] at H; have c6b0 : decide (100 < t280) = false := decide_eq_false c6; clear c6; replace H := Option.bind_eq_some_iff.mp H; obtain ⟨t281, A80, H⟩ := H; replace H : (if t281 = true then (some 0) else (some 2)) = some r := H; have A8 := Aside0.mk A80; clear A80
      by_cases c9 : t281 = true
      · subst c9
        have H1 : (some 0) = some r := by rw [if_pos rfl] at H; exact H
        clear H; have H := H1; clear H1; obtain rfl := Option.some.inj H
        go_enter Try.func55, Try.ntmps55
        go_wp2_with (first | ((with_reducible refine q14 (f := 58) rfl ?_); refine goesL_ (some 9) rfl rfl Try.func58 (by kernel_rfl) rfl #[.slice A0 l0.length c0] rfl (by (try simp only [List.map_toArray, List.map_cons, List.map_nil]); rfl) ?_; (with_reducible refine (chiasmusref01_Size.calls k _ _ l0 t279 t280 _ ?side1 ?side2 A3.out).mono ?_); (case side1 => repeat (exact HR0.out)); (case side2 => exact HC0.out); rintro e w10 ⟨rfl, hb⟩; refine ⟨_, rfl, ?_⟩; have n0_ := Aside0.mk (q10 (by with_reducible exact HB.out) hb); clear HB; have HB := n0_; clear n0_; (try clear hb); (try clear hb2); (try clear hk); (try clear hi)) | ((with_reducible refine q14 (f := 80) rfl ?_); refine goesL_ (some 18) rfl rfl Try.func80 (by kernel_rfl) rfl #[.slice A0 l0.length c0, .int .i64 a1] rfl (by (try simp only [List.map_toArray, List.map_cons, List.map_nil]); rfl) ?_; (with_reducible refine (chiasmusref01_form.calls k _ _ l0 a1 true _ ?side1 ?side2 A8.out).mono ?_); (case side1 => repeat (exact (Kd.C_below HR0.out HB.out))); (case side2 => exact HC0.out); rintro e w11 ⟨rfl, hb⟩; refine ⟨_, rfl, ?_⟩; have n0_ := Aside0.mk (q10 (by with_reducible exact HB.out) hb); clear HB; have HB := n0_; clear n0_; (try clear hb); (try clear hb2); (try clear hk); (try clear hi)))
        go_ret; exact ⟨by rfl, by with_reducible exact HB.out⟩
      · replace c9 := Bool.eq_false_iff.mpr c9; subst c9
        have H1 : (some 2) = some r := by rw [if_neg (show ¬ (false = true) by decide)] at H; exact H
        clear H; have H := H1; clear H1; obtain rfl := Option.some.inj H
        go_enter Try.func55, Try.ntmps55
        go_wp2_with (first | ((with_reducible refine q14 (f := 58) rfl ?_); refine goesL_ (some 9) rfl rfl Try.func58 (by kernel_rfl) rfl #[.slice A0 l0.length c0] rfl (by (try simp only [List.map_toArray, List.map_cons, List.map_nil]); rfl) ?_; (with_reducible refine (chiasmusref01_Size.calls k _ _ l0 t279 t280 _ ?side1 ?side2 A3.out).mono ?_); (case side1 => repeat (exact HR0.out)); (case side2 => exact HC0.out); rintro e w12 ⟨rfl, hb⟩; refine ⟨_, rfl, ?_⟩; have n0_ := Aside0.mk (q10 (by with_reducible exact HB.out) hb); clear HB; have HB := n0_; clear n0_; (try clear hb); (try clear hb2); (try clear hk); (try clear hi)) | ((with_reducible refine q14 (f := 80) rfl ?_); refine goesL_ (some 18) rfl rfl Try.func80 (by kernel_rfl) rfl #[.slice A0 l0.length c0, .int .i64 a1] rfl (by (try simp only [List.map_toArray, List.map_cons, List.map_nil]); rfl) ?_; (with_reducible refine (chiasmusref01_form.calls k _ _ l0 a1 false _ ?side1 ?side2 A8.out).mono ?_); (case side1 => repeat (exact (Kd.C_below HR0.out HB.out))); (case side2 => exact HC0.out); rintro e w13 ⟨rfl, hb⟩; refine ⟨_, rfl, ?_⟩; have n0_ := Aside0.mk (q10 (by with_reducible exact HB.out) hb); clear HB; have HB := n0_; clear n0_; (try clear hb); (try clear hb2); (try clear hk); (try clear hi)))
        go_ret; exact ⟨by rfl, by with_reducible exact HB.out⟩
def chiasmusref01_Result.f (k : Nat) (l0 : List (S44)) : Option (Int) := (chiasmusref01_wrong.f k l0 8).bind fun t282 => (some t282)
set_option maxHeartbeats 8000000 in
set_option maxRecDepth 100000 in
theorem chiasmusref01_Result.calls (k : Nat) (A0 : Option Addr) (c0 : Nat) (l0 : List (S44)) (r : Int) (w : World) (hr0 : Kd.C k44 w A0 l0.length l0) (hc0 : l0.length ≤ c0) (h : chiasmusref01_Result.f k l0 = some r) :
    Calls Try.prog 32 #[.slice A0 l0.length c0] w fun e w' => e = .returned (.int .i64 r) ∧ Below w.heap.size w w' := by
  have HR0 := Aside0.mk hr0; have HC0 := Aside0.mk hc0; clear hr0 hc0; have HB := Aside0.mk (Below.refl w.heap.size w); have H : ((chiasmusref01_wrong.f k l0 8).bind fun t282 => (some t282)) = some r := h; clear h; replace H := Option.bind_eq_some_iff.mp H; obtain ⟨t282, A20, H⟩ := H; replace H : (some t282) = some r := H; have A2 := Aside0.mk A20; clear A20; obtain rfl := Option.some.inj H
  go_enter Try.func32, Try.ntmps32
  go_wp2_with (first | ((with_reducible refine q14 (f := 55) rfl ?_); refine goesL_ (some 4) rfl rfl Try.func55 (by kernel_rfl) rfl #[.slice A0 l0.length c0, .int .i64 8] rfl (by (try simp only [List.map_toArray, List.map_cons, List.map_nil]); rfl) ?_; (with_reducible refine (chiasmusref01_wrong.calls k _ _ l0 8 t282 _ ?side1 ?side2 A2.out).mono ?_); (case side1 => repeat (exact HR0.out)); (case side2 => exact HC0.out); rintro e w3 ⟨rfl, hb⟩; refine ⟨_, rfl, ?_⟩; have n0_ := Aside0.mk (q10 (by with_reducible exact HB.out) hb); clear HB; have HB := n0_; clear n0_; (try clear hb); (try clear hb2); (try clear hk); (try clear hi)))
  go_ret; exact ⟨by rfl, by with_reducible exact HB.out⟩
def chiasmusref09_char.f (a0 : ByteArray) : Option (Int × ByteArray × (List (S44))) := some (1, a0, ([] : List (S44)))
set_option maxHeartbeats 8000000 in
set_option maxRecDepth 100000 in
theorem chiasmusref09_char.calls (a0 : ByteArray) (r1 : Int) (r2 : ByteArray) (r3 : List (S44)) (w : World) (h : chiasmusref09_char.f a0 = some (r1, r2, r3)) :
    Calls Try.prog 56 #[.string a0] w fun e w' => ∃ v2_ : Value, e = .returned (.agg #[.int .i64 r1, .string r2, v2_]) ∧ Kd.R k44 44 w' w.heap.size (fun _ => True) v2_ r3 ∧ Below w.heap.size w w' := by
  have hu44 := Try.underlying44; have HB := Aside0.mk (Below.refl w.heap.size w); have H : (some (1, a0, ([] : List (S44)))) = some (r1, r2, r3) := h; clear h; simp only [Option.some.injEq, Prod.mk.injEq] at H; obtain ⟨rfl, rfl, rfl⟩ := H
  go_enter Try.func56, Try.ntmps56
  go_wp2_with (first | ((with_reducible refine q21 (N := 2) rfl ?_); refine q22 ?hg (N := 2) ?hd (cs := #[.int .i64 0, .string (⟨#[]⟩ : ByteArray), .slice none 0 0]) (t := 44) ?hr ?_; (case hd => rfl); (case hg => rfl); (case hr => (go_simp; done)); intro gb284 hg w2 hbox hb; have n0_ := Aside0.mk (q10 (by with_reducible exact HB.out) hb); have n1_ := Aside0.mk (hbox); have n2_ := Aside0.mk ((by rw [hg]; exact (q3 (by with_reducible exact HB.out)) : w.heap.size ≤ gb284)); have n3_ := Aside0.mk ((by rw [hg]; exact (q3 (by with_reducible exact HB.out)) : w.heap.size ≤ gb284)); clear HB; have HB := n0_; have BK284 := n1_; have GW284 := n2_; have GE284 := n3_; clear n0_ n1_ n2_ n3_; clear hb hbox hg; have hcz3_0 : w2.cell? ⟨gb284, 0, none⟩ = some (.int .i64 0) := (q5 BK284.out 0).trans rfl; have hcz3_1 : w2.cell? ⟨gb284, 1, none⟩ = some (.string (⟨#[]⟩ : ByteArray)) := (q5 BK284.out 1).trans rfl; have hcz3_2 : w2.cell? ⟨gb284, 2, none⟩ = some (.slice none 0 0) := (q5 BK284.out 2).trans rfl; have hfz3_0 := q11 BK284.out 0; have hfz3_1 := q11 BK284.out 1; have hfz3_2 := q11 BK284.out 2))
  refine bodyPost_ret (results_cell_row rfl _ _ gb284 44 #[.int .i64 1, .string a0, .slice none 0 0] (0, 0) _ rfl (by refine q17 (cs := #[.int .i64 1, .string a0, .slice none 0 0]) ?_ 2 _ rfl; refine q17 (cs := #[.int .i64 1, .string (⟨#[]⟩ : ByteArray), .slice none 0 0]) ?_ 1 _ rfl; refine q17 (cs := #[.int .i64 0, .string (⟨#[]⟩ : ByteArray), .slice none 0 0]) ?_ 0 _ rfl; exact BK284.out) Try.underlying44 rfl (by kernel_rfl)) rfl ?_; exact ⟨_, by rfl, by exact Kd.R_nil _ _ _ _ _, by repeat ((with_reducible first | exact HB.out | refine q24 ?_ GE284.out))⟩
def chiasmusref09_letter.f (a0 : Int) : Option (ByteArray) := if a0 = 5 then (some (⟨#[83]⟩ : ByteArray)) else (if a0 = 6 then (some (⟨#[84]⟩ : ByteArray)) else (some (⟨#[69]⟩ : ByteArray)))
set_option maxHeartbeats 8000000 in
set_option maxRecDepth 100000 in
theorem chiasmusref09_letter.calls (a0 : Int) (r : ByteArray) (w : World) (h : chiasmusref09_letter.f a0 = some r) :
    Calls Try.prog 57 #[.int .i64 a0] w fun e w' => e = .returned (.string r) ∧ Drawn0 w w' := by
  have H : (if a0 = 5 then (some (⟨#[83]⟩ : ByteArray)) else (if a0 = 6 then (some (⟨#[84]⟩ : ByteArray)) else (some (⟨#[69]⟩ : ByteArray)))) = some r := h; clear h
  by_cases c2 : a0 = 5
  · rw [if_pos c2] at H; have c2b0 : (a0 == 5) = true := beq_iff_eq.mpr c2; have c2b1 : (a0 != 5) = false := bne_eq_false_iff_eq.mpr c2; clear c2; obtain rfl := Option.some.inj H
    go_enter Try.func57, Try.ntmps57
    go_wp2
    go_ret; exact ⟨by rfl, by repeat (exact Drawn0.refl _)⟩
  · rw [if_neg c2] at H; have c2b0 : (a0 == 5) = false := beq_eq_false_iff_ne.mpr c2; have c2b1 : (a0 != 5) = true := bne_iff_ne.mpr c2
    by_cases c3 : a0 = 6
    · rw [if_pos c3] at H; have c3b0 : (a0 == 6) = true := beq_iff_eq.mpr c3; have c3b1 : (a0 != 6) = false := bne_eq_false_iff_eq.mpr c3; clear c3; obtain rfl := Option.some.inj H
      go_enter Try.func57, Try.ntmps57
      go_wp2
      go_ret; exact ⟨by rfl, by repeat (exact Drawn0.refl _)⟩
    · rw [if_neg c3] at H; have c3b0 : (a0 == 6) = false := beq_eq_false_iff_ne.mpr c3; have c3b1 : (a0 != 6) = true := bne_iff_ne.mpr c3; obtain rfl := Option.some.inj H
      go_enter Try.func57, Try.ntmps57
      go_wp2
      go_ret; exact ⟨by rfl, by repeat (exact Drawn0.refl _)⟩
end Go.Proofs.Ytnffhiiihegjbaa.MD
