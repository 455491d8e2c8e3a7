/- Part of the walk: lemmas and printed functions that the claim uses (wip/tools/trim.py). -/
import Derived.Test.YtdbjjaodkapikaaLTEx1
import Derived.Test.YtdbjjaodkapikaaLTEx6
import Derived.Test.YtdbjjaodkapikaaLTEx7
namespace Go.Proofs.Ytdbjjaodkapikaa.TE
open Go.RowKit Go.Proofs.YtdbjjaodkapikaaW.PrintWords Go.Proofs.YtdbjjaodkapikaaW.PrintLast Go.Proofs.YtdbjjaodkapikaaW.PrintMore
attribute [local go_sem] max2_int min2_int max_two min_two max_three min_three max_four min_four
set_option linter.unusedVariables false
set_option linter.unusedSimpArgs false
mutual
def chiasmusref01_right.j0 : Nat → Bool → Int → ByteArray → List (S42) → Option (Bool)
  | 0, _, _, _, _ => none
  | k + 1, x16, x228000, x228001, x228002 => if x16 = true then (some false) else (if x228000 = 1 then (some ((x228001.size : Int) == 1)) else (if x228000 = 2 then ((chiasmusref01_IsWord.f k x228001).bind fun t228 => (some t228)) else (if x228000 = 3 then ((chiasmusref01_IsNumber.f k x228001).bind fun t229 => (some t229)) else (if x228000 = 4 then (some (x228001.toList == ([] : List UInt8))) else (if x228000 = 5 then (chiasmusref01_right.j1 k x228000 (x228000 == 5) x228000 x228001 x228002) else (if x228000 = 6 then (chiasmusref01_right.j1 k x228000 (x228000 == 6) x228000 x228001 x228002) else (chiasmusref01_right.j1 k x228000 (x228000 == 7) x228000 x228001 x228002)))))))
def chiasmusref01_right.j1 : Nat → Int → Bool → Int → ByteArray → List (S42) → Option (Bool)
  | 0, _, _, _, _, _ => none
  | k + 1, x18, x40, x228000, x228001, x228002 => if x40 = true then ((chiasmusref01_IsVar.f k x228001).bind fun t230 => (some t230)) else (if x18 = 8 then ((chiasmusref01_IsName.f k x228001 40).bind fun t231 => (some t231)) else (some false))
end
def chiasmusref01_right.f (k : Nat) (a0_0 : Int) (a0_1 : ByteArray) (l0_2 : List (S42)) : Option (Bool) := if a0_0 = 4 then (chiasmusref01_right.j0 k false a0_0 a0_1 l0_2) else (if a0_0 = 8 then (chiasmusref01_right.j0 k false a0_0 a0_1 l0_2) else (chiasmusref01_right.j0 k (decide ((l0_2.length : Int) > 0)) a0_0 a0_1 l0_2))
set_option maxHeartbeats 8000000 in
set_option maxRecDepth 100000 in
theorem chiasmusref01_right.calls (k : Nat) (a0_0 : Int) (a0_1 : ByteArray) (A0_2 : Option Addr) (c0_2 : Nat) (l0_2 : List (S42)) (r : Bool) (w : World) (hr0_2 : Kd.C k42 w A0_2 l0_2.length l0_2) (hc0_2 : l0_2.length ≤ c0_2) (h : chiasmusref01_right.f k a0_0 a0_1 l0_2 = some r) :
    Calls Try.prog 126 #[.agg #[.int .i64 a0_0, .string a0_1, .slice A0_2 l0_2.length c0_2]] w fun e w' => e = .returned (.bool r) ∧ Below w.heap.size w w' := by
  have hu42 := Try.underlying42; have HR0_2 := Aside0.mk hr0_2; have HC0_2 := Aside0.mk hc0_2; clear hr0_2 hc0_2; have HB := Aside0.mk (Below.refl w.heap.size w); have H : (if a0_0 = 4 then (chiasmusref01_right.j0 k false a0_0 a0_1 l0_2) else (if a0_0 = 8 then (chiasmusref01_right.j0 k false a0_0 a0_1 l0_2) else (chiasmusref01_right.j0 k (decide ((l0_2.length : Int) > 0)) a0_0 a0_1 l0_2))) = some r := h; clear h; have HC2 := Aside0.mk H; clear H
  go_enter Try.func126, Try.ntmps126
  go_upto_region 1 with (first | ((with_reducible refine q22 (N := 1) rfl ?_); (try (refine gate_guard (by rfl) ?_; dsimp only)); refine q21 ?hg (N := 1) ?hd (cs := #[.int .i64 a0_0, .string a0_1, .slice A0_2 l0_2.length c0_2]) (t := 42) ?hr ?_; (case hd => rfl); (case hg => rfl); (case hr => first | (go_simp; done) | (go_simp; rfl)); intro gb227 hg w3 hbox hb; have n0_ := Aside0.mk (q14 (by repeat (first | (with_reducible first | exact HB.out | apply q11 | apply q9 | apply q10) | exact HB.out)) hb); have n1_ := Aside0.mk (hbox); have n2_ := Aside0.mk ((by rw [hg]; exact (q16 (by repeat (first | (with_reducible first | exact HB.out | apply q11 | apply q9 | apply q10) | exact HB.out))) : w.heap.size ≤ gb227)); have n3_ := Aside0.mk ((by rw [hg]; exact (q16 (by repeat (first | (with_reducible first | exact HB.out | apply q11 | apply q9 | apply q10) | exact HB.out))) : w.heap.size ≤ gb227)); clear HB; have HB := n0_; have BK227 := n1_; have GW227 := n2_; have GE227 := n3_; clear n0_ n1_ n2_ n3_; clear hb hbox hg))
  (try simp only [Act.put, List.setIfInBounds_toArray, List.set_cons_zero, List.set_cons_succ])
  go_cut [16] (fun v16 wc => ∃ (kq : Nat) (x16_1 : Bool), v16 = .bool x16_1 ∧ Aside0 (chiasmusref01_right.j0 kq x16_1 a0_0 a0_1 l0_2 = some r) ∧ Aside0 (kq ≤ k) ∧ Aside0 (wc.heap[gb227]? = some (.cells #[.int .i64 a0_0, .string a0_1, (.slice A0_2 l0_2.length c0_2)] 42 (0, 0))) ∧ Aside0 (Below w.heap.size w wc))
  case first =>
    have H := HC2.out; clear HC2
    by_cases c4 : a0_0 = 4
    · rw [if_pos c4] at H; have c4b0 : (a0_0 == 4) = true := beq_iff_eq.mpr c4; have c4b1 : (a0_0 != 4) = false := bne_eq_false_iff_eq.mpr c4; clear c4
      (first | rw [c4b0] | (simp only [i64_w, i32_w]; rw [c4b0]) | skip)
      have H' := Aside0.mk H; clear H; have hcz5_0 : w3.cell? ⟨gb227, 0, none⟩ = some (.int .i64 a0_0) := (q5 BK227.out 0).trans rfl; have hcz5_1 : w3.cell? ⟨gb227, 1, none⟩ = some (.string a0_1) := (q5 BK227.out 1).trans rfl; have hcz5_2 : w3.cell? ⟨gb227, 2, none⟩ = some (.slice A0_2 l0_2.length c0_2) := (q5 BK227.out 2).trans rfl; have hfz5_0 := q13 BK227.out 0; have hfz5_1 := q13 BK227.out 1; have hfz5_2 := q13 BK227.out 2
      go_wp2
      go_meet
      case rel => exact ⟨_, (false), (by first | rfl | (simp; done) | (simp [*]; done)), H', ⟨by first | omega | exact Nat.le_refl _⟩, ⟨by (with_reducible repeat (first | refine blk_drewN ?_ _ | refine blk_drew ?_ | refine q20 ?_ _)); exact BK227.out⟩, ⟨by repeat (first | (with_reducible first | exact HB.out | apply q11 | apply q9 | apply q10 | refine q17 ?_ GE227.out) | exact HB.out)⟩⟩
    · rw [if_neg c4] at H; have c4b0 : (a0_0 == 4) = false := beq_eq_false_iff_ne.mpr c4; have c4b1 : (a0_0 != 4) = true := bne_iff_ne.mpr c4
      (first | rw [c4b0] | (simp only [i64_w, i32_w]; rw [c4b0]) | skip)
      by_cases c6 : a0_0 = 8
      · rw [if_pos c6] at H; have c6b0 : (a0_0 == 8) = true := beq_iff_eq.mpr c6; have c6b1 : (a0_0 != 8) = false := bne_eq_false_iff_eq.mpr c6; clear c6; have H' := Aside0.mk H; clear H; have hcz7_0 : w3.cell? ⟨gb227, 0, none⟩ = some (.int .i64 a0_0) := (q5 BK227.out 0).trans rfl; have hcz7_1 : w3.cell? ⟨gb227, 1, none⟩ = some (.string a0_1) := (q5 BK227.out 1).trans rfl; have hcz7_2 : w3.cell? ⟨gb227, 2, none⟩ = some (.slice A0_2 l0_2.length c0_2) := (q5 BK227.out 2).trans rfl; have hfz7_0 := q13 BK227.out 0; have hfz7_1 := q13 BK227.out 1; have hfz7_2 := q13 BK227.out 2
        go_wp2
        go_meet
        case rel => exact ⟨_, (false), (by first | rfl | (simp; done) | (simp [*]; done)), H', ⟨by first | omega | exact Nat.le_refl _⟩, ⟨by (with_reducible repeat (first | refine blk_drewN ?_ _ | refine blk_drew ?_ | refine q20 ?_ _)); exact BK227.out⟩, ⟨by repeat (first | (with_reducible first | exact HB.out | apply q11 | apply q9 | apply q10 | refine q17 ?_ GE227.out) | exact HB.out)⟩⟩
      · rw [if_neg c6] at H; have c6b0 : (a0_0 == 8) = false := beq_eq_false_iff_ne.mpr c6; have c6b1 : (a0_0 != 8) = true := bne_iff_ne.mpr c6; have H' := Aside0.mk H; clear H; have hcz8_0 : w3.cell? ⟨gb227, 0, none⟩ = some (.int .i64 a0_0) := (q5 BK227.out 0).trans rfl; have hcz8_1 : w3.cell? ⟨gb227, 1, none⟩ = some (.string a0_1) := (q5 BK227.out 1).trans rfl; have hcz8_2 : w3.cell? ⟨gb227, 2, none⟩ = some (.slice A0_2 l0_2.length c0_2) := (q5 BK227.out 2).trans rfl; have hfz8_0 := q13 BK227.out 0; have hfz8_1 := q13 BK227.out 1; have hfz8_2 := q13 BK227.out 2
        go_wp2
        go_meet
        case rel => exact ⟨_, (decide ((l0_2.length : Int) > 0)), (by first | rfl | (simp; done) | (simp [*]; done)), H', ⟨by first | omega | exact Nat.le_refl _⟩, ⟨by (with_reducible repeat (first | refine blk_drewN ?_ _ | refine blk_drew ?_ | refine q20 ?_ _)); exact BK227.out⟩, ⟨by repeat (first | (with_reducible first | exact HB.out | apply q11 | apply q9 | apply q10 | refine q17 ?_ GE227.out) | exact HB.out)⟩⟩
  case rest =>
    clear HC2
    try clear c1
    try clear p2
    try clear c4
    try clear c4b0
    try clear c4b1
    try clear c6
    try clear c6b0
    try clear c6b1
    try clear hcz5_0
    try clear hcz5_1
    try clear hcz5_2
    try clear hcz7_0
    try clear hcz7_1
    try clear hcz7_2
    try clear hcz8_0
    try clear hcz8_1
    try clear hcz8_2
    try clear hfz5_0
    try clear hfz5_1
    try clear hfz5_2
    try clear hfz7_0
    try clear hfz7_1
    try clear hfz7_2
    try clear hfz8_0
    try clear hfz8_1
    try clear hfz8_2
    obtain ⟨kq, x16_1, rfl, HA, HJ1, BK227, HB⟩ := hcut
    cases kq with
    | zero => exact absurd HA.out (by simp [chiasmusref01_right.j0])
    | succ kj1 =>
      have H := HA.out; clear HA; simp only [chiasmusref01_right.j0] at H
      by_cases c9 : x16_1 = true
      · subst c9
        have H1 : (some false) = some r := by rw [if_pos rfl] at H; exact H
        clear H; have H := H1; clear H1; obtain rfl := Option.some.inj H
        go_wp2
        go_ret; exact ⟨by first | rfl | (simp [errW_none, errW_some] <;> rfl) | (simp [*, errW_none, errW_some] <;> rfl), by repeat (first | (with_reducible first | exact HB.out | apply q11 | apply q9 | apply q10 | refine q17 ?_ GE227.out) | exact HB.out)⟩
      · replace c9 := Bool.eq_false_iff.mpr c9; subst c9
        have H1 : (if a0_0 = 1 then (some ((a0_1.size : Int) == 1)) else (if a0_0 = 2 then ((chiasmusref01_IsWord.f kj1 a0_1).bind fun t228 => (some t228)) else (if a0_0 = 3 then ((chiasmusref01_IsNumber.f kj1 a0_1).bind fun t229 => (some t229)) else (if a0_0 = 4 then (some (a0_1.toList == ([] : List UInt8))) else (if a0_0 = 5 then (chiasmusref01_right.j1 kj1 a0_0 (a0_0 == 5) a0_0 a0_1 l0_2) else (if a0_0 = 6 then (chiasmusref01_right.j1 kj1 a0_0 (a0_0 == 6) a0_0 a0_1 l0_2) else (chiasmusref01_right.j1 kj1 a0_0 (a0_0 == 7) a0_0 a0_1 l0_2))))))) = some r := by rw [if_neg (show ¬ (false = true) by decide)] at H; exact H
        clear H; have H := H1; clear H1
        by_cases c10 : a0_0 = 1
        · rw [if_pos c10] at H; have c10b0 : (a0_0 == 1) = true := beq_iff_eq.mpr c10; have c10b1 : (a0_0 != 1) = false := bne_eq_false_iff_eq.mpr c10; clear c10; obtain rfl := Option.some.inj H; have hcz11_0 : wc.cell? ⟨gb227, 0, none⟩ = some (.int .i64 a0_0) := (q5 BK227.out 0).trans rfl; have hcz11_1 : wc.cell? ⟨gb227, 1, none⟩ = some (.string a0_1) := (q5 BK227.out 1).trans rfl; have hcz11_2 : wc.cell? ⟨gb227, 2, none⟩ = some (.slice A0_2 l0_2.length c0_2) := (q5 BK227.out 2).trans rfl; have hfz11_0 := q13 BK227.out 0; have hfz11_1 := q13 BK227.out 1; have hfz11_2 := q13 BK227.out 2
          go_wp2
          go_ret; exact ⟨by first | rfl | (simp [errW_none, errW_some] <;> rfl) | (simp [*, errW_none, errW_some] <;> rfl), by repeat (first | (with_reducible first | exact HB.out | apply q11 | apply q9 | apply q10 | refine q17 ?_ GE227.out) | exact HB.out)⟩
        · rw [if_neg c10] at H; have c10b0 : (a0_0 == 1) = false := beq_eq_false_iff_ne.mpr c10; have c10b1 : (a0_0 != 1) = true := bne_iff_ne.mpr c10
          by_cases c12 : a0_0 = 2
          · rw [if_pos c12] at H; have c12b0 : (a0_0 == 2) = true := beq_iff_eq.mpr c12; have c12b1 : (a0_0 != 2) = false := bne_eq_false_iff_eq.mpr c12; clear c12; replace H := Option.bind_eq_some_iff.mp H; obtain ⟨t228, A130, H⟩ := H; replace H : (some t228) = some r := H; have A13 := Aside0.mk A130; clear A130; obtain rfl := Option.some.inj H; have hcz14_0 : wc.cell? ⟨gb227, 0, none⟩ = some (.int .i64 a0_0) := (q5 BK227.out 0).trans rfl; have hcz14_1 : wc.cell? ⟨gb227, 1, none⟩ = some (.string a0_1) := (q5 BK227.out 1).trans rfl; have hcz14_2 : wc.cell? ⟨gb227, 2, none⟩ = some (.slice A0_2 l0_2.length c0_2) := (q5 BK227.out 2).trans rfl; have hfz14_0 := q13 BK227.out 0; have hfz14_1 := q13 BK227.out 1; have hfz14_2 := q13 BK227.out 2
            go_wp2_with (first | ((with_reducible refine q15 (f := 123) rfl ?_); refine goesL_ (some 29) rfl rfl Try.func123 (by kernel_rfl) rfl #[.string a0_1] rfl (by (try simp only [List.map_toArray, List.map_cons, List.map_nil]); first | done | rfl | (simp only [List.length_drop, List.length_take]; rfl)) ?_; (with_reducible refine (chiasmusref01_IsWord.calls kj1 a0_1 t228 _ A13.out).mono ?_); rintro e w' ⟨rfl, ⟨nd, rfl⟩⟩; refine ⟨_, rfl, ?_⟩))
            go_ret; exact ⟨by first | rfl | (simp [errW_none, errW_some] <;> rfl) | (simp [*, errW_none, errW_some] <;> rfl), by repeat (first | (with_reducible first | exact HB.out | apply q11 | apply q9 | apply q10 | refine q17 ?_ GE227.out) | exact HB.out)⟩
          · rw [if_neg c12] at H; have c12b0 : (a0_0 == 2) = false := beq_eq_false_iff_ne.mpr c12; have c12b1 : (a0_0 != 2) = true := bne_iff_ne.mpr c12
            by_cases c15 : a0_0 = 3
            · rw [if_pos c15] at H; have c15b0 : (a0_0 == 3) = true := beq_iff_eq.mpr c15; have c15b1 : (a0_0 != 3) = false := bne_eq_false_iff_eq.mpr c15; clear c15; replace H := Option.bind_eq_some_iff.mp H; obtain ⟨t229, A160, H⟩ := H; replace H : (some t229) = some r := H; have A16 := Aside0.mk A160; clear A160; obtain rfl := Option.some.inj H; have hcz17_0 : wc.cell? ⟨gb227, 0, none⟩ = some (.int .i64 a0_0) := (q5 BK227.out 0).trans rfl; have hcz17_1 : wc.cell? ⟨gb227, 1, none⟩ = some (.string a0_1) := (q5 BK227.out 1).trans rfl; have hcz17_2 : wc.cell? ⟨gb227, 2, none⟩ = some (.slice A0_2 l0_2.length c0_2) := (q5 BK227.out 2).trans rfl; have hfz17_0 := q13 BK227.out 0; have hfz17_1 := q13 BK227.out 1; have hfz17_2 := q13 BK227.out 2
              go_wp2_with (first | ((with_reducible refine q15 (f := 125) rfl ?_); refine goesL_ (some 34) rfl rfl Try.func125 (by kernel_rfl) rfl #[.string a0_1] rfl (by (try simp only [List.map_toArray, List.map_cons, List.map_nil]); first | done | rfl | (simp only [List.length_drop, List.length_take]; rfl)) ?_; (with_reducible refine (chiasmusref01_IsNumber.calls kj1 a0_1 t229 _ A16.out).mono ?_); rintro e w' ⟨rfl, ⟨nd, rfl⟩⟩; refine ⟨_, rfl, ?_⟩))
              go_ret; exact ⟨by first | rfl | (simp [errW_none, errW_some] <;> rfl) | (simp [*, errW_none, errW_some] <;> rfl), by repeat (first | (with_reducible first | exact HB.out | apply q11 | apply q9 | apply q10 | refine q17 ?_ GE227.out) | exact HB.out)⟩
            · rw [if_neg c15] at H; have c15b0 : (a0_0 == 3) = false := beq_eq_false_iff_ne.mpr c15; have c15b1 : (a0_0 != 3) = true := bne_iff_ne.mpr c15
              by_cases c18 : a0_0 = 4
              · rw [if_pos c18] at H; have c18b0 : (a0_0 == 4) = true := beq_iff_eq.mpr c18; have c18b1 : (a0_0 != 4) = false := bne_eq_false_iff_eq.mpr c18; clear c18; obtain rfl := Option.some.inj H; have hcz19_0 : wc.cell? ⟨gb227, 0, none⟩ = some (.int .i64 a0_0) := (q5 BK227.out 0).trans rfl; have hcz19_1 : wc.cell? ⟨gb227, 1, none⟩ = some (.string a0_1) := (q5 BK227.out 1).trans rfl; have hcz19_2 : wc.cell? ⟨gb227, 2, none⟩ = some (.slice A0_2 l0_2.length c0_2) := (q5 BK227.out 2).trans rfl; have hfz19_0 := q13 BK227.out 0; have hfz19_1 := q13 BK227.out 1; have hfz19_2 := q13 BK227.out 2
                go_wp2
                go_ret; exact ⟨by first | rfl | (simp [errW_none, errW_some] <;> rfl) | (simp [*, errW_none, errW_some] <;> rfl), by repeat (first | (with_reducible first | exact HB.out | apply q11 | apply q9 | apply q10 | refine q17 ?_ GE227.out) | exact HB.out)⟩
              · rw [if_neg c18] at H; have c18b0 : (a0_0 == 4) = false := beq_eq_false_iff_ne.mpr c18; have c18b1 : (a0_0 != 4) = true := bne_iff_ne.mpr c18; have HC20 := Aside0.mk H; clear H; have hcz21_0 : wc.cell? ⟨gb227, 0, none⟩ = some (.int .i64 a0_0) := (q5 BK227.out 0).trans rfl; have hcz21_1 : wc.cell? ⟨gb227, 1, none⟩ = some (.string a0_1) := (q5 BK227.out 1).trans rfl; have hcz21_2 : wc.cell? ⟨gb227, 2, none⟩ = some (.slice A0_2 l0_2.length c0_2) := (q5 BK227.out 2).trans rfl; have hfz21_0 := q13 BK227.out 0; have hfz21_1 := q13 BK227.out 1; have hfz21_2 := q13 BK227.out 2
                go_upto_if 40 with (fail)
                go_cut [40] (fun v40 wc => ∃ (kq : Nat) (x40_19 : Bool), v40 = .bool x40_19 ∧ Aside0 (chiasmusref01_right.j1 kq a0_0 x40_19 a0_0 a0_1 l0_2 = some r) ∧ Aside0 (kq ≤ kj1) ∧ Aside0 (wc.heap[gb227]? = some (.cells #[.int .i64 a0_0, .string a0_1, (.slice A0_2 l0_2.length c0_2)] 42 (0, 0))) ∧ Aside0 (Below w.heap.size w wc))
                case first =>
                  have H := HC20.out; clear HC20
                  by_cases c22 : a0_0 = 5
                  · rw [if_pos c22] at H; have c22b0 : (a0_0 == 5) = true := beq_iff_eq.mpr c22; have c22b1 : (a0_0 != 5) = false := bne_eq_false_iff_eq.mpr c22; clear c22
                    (first | rw [c22b0] | (simp only [i64_w, i32_w]; rw [c22b0]) | skip)
                    have H' := Aside0.mk H; clear H
                    go_wp2
                    go_meet
                    case rel => exact ⟨_, ((a0_0 == 5)), (by first | rfl | (simp; done) | (simp [*]; done)), H', ⟨by have := HJ1.out; first | omega | exact Nat.le_refl _⟩, ⟨by (with_reducible repeat (first | refine blk_drewN ?_ _ | refine blk_drew ?_ | refine q20 ?_ _)); exact BK227.out⟩, ⟨by repeat (first | (with_reducible first | exact HB.out | apply q11 | apply q9 | apply q10 | refine q17 ?_ GE227.out) | exact HB.out)⟩⟩
                  · rw [if_neg c22] at H; have c22b0 : (a0_0 == 5) = false := beq_eq_false_iff_ne.mpr c22; have c22b1 : (a0_0 != 5) = true := bne_iff_ne.mpr c22
                    (first | rw [c22b0] | (simp only [i64_w, i32_w]; rw [c22b0]) | skip)
                    by_cases c23 : a0_0 = 6
                    · rw [if_pos c23] at H; have c23b0 : (a0_0 == 6) = true := beq_iff_eq.mpr c23; have c23b1 : (a0_0 != 6) = false := bne_eq_false_iff_eq.mpr c23; clear c23; have H' := Aside0.mk H; clear H
                      go_wp2
                      go_meet
                      case rel => exact ⟨_, ((a0_0 == 6)), (by first | rfl | (simp; done) | (simp [*]; done)), H', ⟨by have := HJ1.out; first | omega | exact Nat.le_refl _⟩, ⟨by (with_reducible repeat (first | refine blk_drewN ?_ _ | refine blk_drew ?_ | refine q20 ?_ _)); exact BK227.out⟩, ⟨by repeat (first | (with_reducible first | exact HB.out | apply q11 | apply q9 | apply q10 | refine q17 ?_ GE227.out) | exact HB.out)⟩⟩
                    · rw [if_neg c23] at H; have c23b0 : (a0_0 == 6) = false := beq_eq_false_iff_ne.mpr c23; have c23b1 : (a0_0 != 6) = true := bne_iff_ne.mpr c23; have H' := Aside0.mk H; clear H
                      go_wp2
                      go_meet
                      case rel => exact ⟨_, ((a0_0 == 7)), (by first | rfl | (simp; done) | (simp [*]; done)), H', ⟨by have := HJ1.out; first | omega | exact Nat.le_refl _⟩, ⟨by (with_reducible repeat (first | refine blk_drewN ?_ _ | refine blk_drew ?_ | refine q20 ?_ _)); exact BK227.out⟩, ⟨by repeat (first | (with_reducible first | exact HB.out | apply q11 | apply q9 | apply q10 | refine q17 ?_ GE227.out) | exact HB.out)⟩⟩
                case rest =>
                  clear HC20
                  try clear c1
                  try clear c2
                  try clear p2
                  try clear c4
                  try clear c4b0
                  try clear c4b1
                  try clear c6
                  try clear c6b0
                  try clear c6b1
                  try clear c9
                  try clear c10
                  try clear c10b0
                  try clear c10b1
                  try clear c12
                  try clear c12b0
                  try clear c12b1
                  try clear c15
                  try clear c15b0
                  try clear c15b1
                  try clear c18
                  try clear c18b0
                  try clear c18b1
                  try clear c22
                  try clear c22b0
                  try clear c22b1
                  try clear c23
                  try clear c23b0
                  try clear c23b1
                  try clear hcz11_0
                  try clear hcz11_1
                  try clear hcz11_2
                  try clear hcz14_0
                  try clear hcz14_1
                  try clear hcz14_2
                  try clear hcz17_0
                  try clear hcz17_1
                  try clear hcz17_2
                  try clear hcz19_0
                  try clear hcz19_1
                  try clear hcz19_2
                  try clear hcz21_0
                  try clear hcz21_1
                  try clear hcz21_2
                  try clear hcz5_0
                  try clear hcz5_1
                  try clear hcz5_2
                  try clear hcz7_0
                  try clear hcz7_1
                  try clear hcz7_2
                  try clear hcz8_0
                  try clear hcz8_1
                  try clear hcz8_2
                  try clear hfz11_0
                  try clear hfz11_1
                  try clear hfz11_2
                  try clear hfz14_0
                  try clear hfz14_1
                  try clear hfz14_2
                  try clear hfz17_0
                  try clear hfz17_1
                  try clear hfz17_2
                  try clear hfz19_0
                  try clear hfz19_1
                  try clear hfz19_2
                  try clear hfz21_0
                  try clear hfz21_1
                  try clear hfz21_2
                  try clear hfz5_0
                  try clear hfz5_1
                  try clear hfz5_2
                  try clear hfz7_0
                  try clear hfz7_1
                  try clear hfz7_2
                  try clear hfz8_0
                  try clear hfz8_1
                  try clear hfz8_2
                  try clear p2
                  obtain ⟨kq, x40_19, rfl, HA, HJ19, BK227, HB⟩ := hcut
                  cases kq with
                  | zero => exact absurd HA.out (by simp [chiasmusref01_right.j1])
                  | succ kj19 =>
                    have H := HA.out; clear HA; simp only [chiasmusref01_right.j1] at H
                    by_cases c24 : x40_19 = true
                    · subst c24
                      have H1 : ((chiasmusref01_IsVar.f kj19 a0_1).bind fun t230 => (some t230)) = some r := by rw [if_pos rfl] at H; exact H
                      clear H; have H := H1; clear H1; replace H := Option.bind_eq_some_iff.mp H; obtain ⟨t230, A250, H⟩ := H; replace H : (some t230) = some r := H; have A25 := Aside0.mk A250; clear A250; obtain rfl := Option.some.inj H; have hcz26_0 : wc.cell? ⟨gb227, 0, none⟩ = some (.int .i64 a0_0) := (q5 BK227.out 0).trans rfl; have hcz26_1 : wc.cell? ⟨gb227, 1, none⟩ = some (.string a0_1) := (q5 BK227.out 1).trans rfl; have hcz26_2 : wc.cell? ⟨gb227, 2, none⟩ = some (.slice A0_2 l0_2.length c0_2) := (q5 BK227.out 2).trans rfl; have hfz26_0 := q13 BK227.out 0; have hfz26_1 := q13 BK227.out 1; have hfz26_2 := q13 BK227.out 2
                      go_wp2_with (first | ((with_reducible refine q15 (f := 79) rfl ?_); refine goesL_ (some 46) rfl rfl Try.func79 (by kernel_rfl) rfl #[.string a0_1] rfl (by (try simp only [List.map_toArray, List.map_cons, List.map_nil]); first | done | rfl | (simp only [List.length_drop, List.length_take]; rfl)) ?_; (with_reducible refine (chiasmusref01_IsVar.calls kj19 a0_1 t230 _ A25.out).mono ?_); rintro e w' ⟨rfl, ⟨nd, rfl⟩⟩; refine ⟨_, rfl, ?_⟩))
                      go_ret; exact ⟨by first | rfl | (simp [errW_none, errW_some] <;> rfl) | (simp [*, errW_none, errW_some] <;> rfl), by repeat (first | (with_reducible first | exact HB.out | apply q11 | apply q9 | apply q10 | refine q17 ?_ GE227.out) | exact HB.out)⟩
                    · replace c24 := Bool.eq_false_iff.mpr c24; subst c24
                      have H1 : (if a0_0 = 8 then ((chiasmusref01_IsName.f kj19 a0_1 40).bind fun t231 => (some t231)) else (some false)) = some r := by rw [if_neg (show ¬ (false = true) by decide)] at H; exact H
                      clear H; have H := H1; clear H1
                      by_cases c27 : a0_0 = 8
                      · rw [if_pos c27] at H; have c27b0 : (a0_0 == 8) = true := beq_iff_eq.mpr c27; have c27b1 : (a0_0 != 8) = false := bne_eq_false_iff_eq.mpr c27; clear c27; replace H := Option.bind_eq_some_iff.mp H; obtain ⟨t231, A280, H⟩ := H; replace H : (some t231) = some r := H; have A28 := Aside0.mk A280; clear A280; obtain rfl := Option.some.inj H; have hcz29_0 : wc.cell? ⟨gb227, 0, none⟩ = some (.int .i64 a0_0) := (q5 BK227.out 0).trans rfl; have hcz29_1 : wc.cell? ⟨gb227, 1, none⟩ = some (.string a0_1) := (q5 BK227.out 1).trans rfl; have hcz29_2 : wc.cell? ⟨gb227, 2, none⟩ = some (.slice A0_2 l0_2.length c0_2) := (q5 BK227.out 2).trans rfl; have hfz29_0 := q13 BK227.out 0; have hfz29_1 := q13 BK227.out 1; have hfz29_2 := q13 BK227.out 2
                        go_wp2_with (first | ((with_reducible refine q15 (f := 116) rfl ?_); refine goesL_ (some 51) rfl rfl Try.func116 (by kernel_rfl) rfl #[.string a0_1, .int .i64 40] rfl (by (try simp only [List.map_toArray, List.map_cons, List.map_nil]); first | done | rfl | (simp only [List.length_drop, List.length_take]; rfl)) ?_; (with_reducible refine (chiasmusref01_IsName.calls kj19 a0_1 40 t231 _ A28.out).mono ?_); rintro e w' ⟨rfl, ⟨nd, rfl⟩⟩; refine ⟨_, rfl, ?_⟩))
                        go_ret; exact ⟨by first | rfl | (simp [errW_none, errW_some] <;> rfl) | (simp [*, errW_none, errW_some] <;> rfl), by repeat (first | (with_reducible first | exact HB.out | apply q11 | apply q9 | apply q10 | refine q17 ?_ GE227.out) | exact HB.out)⟩
                      · rw [if_neg c27] at H; have c27b0 : (a0_0 == 8) = false := beq_eq_false_iff_ne.mpr c27; have c27b1 : (a0_0 != 8) = true := bne_iff_ne.mpr c27; obtain rfl := Option.some.inj H
                        go_wp2
                        go_ret; exact ⟨by first | rfl | (simp [errW_none, errW_some] <;> rfl) | (simp [*, errW_none, errW_some] <;> rfl), by repeat (first | (with_reducible first | exact HB.out | apply q11 | apply q9 | apply q10 | refine q17 ?_ GE227.out) | exact HB.out)⟩
mutual
def chiasmusref01_form.l0 : Nat → List (S42) → Int → Int → Option (Bool)
  | 0, _, _, _ => none
  | k + 1, x0, x1, x5 => if x5 < (x0.length : Int) then (if 0 ≤ x5 then ((chiasmusref01_right.f k ((rd_T42 x0 x5).f0) ((rd_T42 x0 x5).f1) ((rd_T42 x0 x5).f2)).bind fun t233 => (if t233 = true then (if ((rd_T42 x0 x5).f0) > x1 then (some false) else ((chiasmusref01_form.f k ((rd_T42 x0 x5).f2) x1).bind fun t236 => (if t236 = true then (chiasmusref01_form.l0 k x0 x1 (wrap64 (x5 + 1))) else (some false)))) else (some false))) else (none)) else (some true)
def chiasmusref01_form.f : Nat → List (S42) → Int → Option (Bool)
  | 0, _, _ => none
  | k + 1, l0, a1 => chiasmusref01_form.l0 k l0 a1 0
end
set_option maxHeartbeats 8000000 in
set_option maxRecDepth 100000 in
theorem chiasmusref01_form.calls (k : Nat) : ∀ (A0 : Option Addr) (c0 : Nat) (l0 : List (S42)) (a1 : Int) (r : Bool) (w : World) (hr0 : Kd.C k42 w A0 l0.length l0) (hc0 : l0.length ≤ c0) (h : chiasmusref01_form.f k l0 a1 = some r),
    Calls Try.prog 103 #[.slice A0 l0.length c0, .int .i64 a1] w fun e w' => e = .returned (.bool r) ∧ Below w.heap.size w w' := by
  induction k using Nat.strongRecOn with
  | _ k ih =>
  intro A0 c0 l0 a1 r w hr0 hc0 h
  cases k with
  | zero => exact absurd h (by simp [chiasmusref01_form.f])
  | succ k =>
  simp only [chiasmusref01_form.f] at h; have hu42 := Try.underlying42; have HR0 := Aside0.mk hr0; have HC0 := Aside0.mk hc0; clear hr0 hc0; have HB := Aside0.mk (Below.refl w.heap.size w); have H : (chiasmusref01_form.l0 k l0 a1 0) = some r := h; clear h; have H' := Aside0.mk H; clear H
  go_enter Try.func103, Try.ntmps103
  go_wp2
  go_loopg [5] k (fun kq v5 w' => ∃ (x5_1 : Int), v5 = .int .i64 x5_1 ∧ Aside0 (chiasmusref01_form.l0 kq l0 a1 x5_1 = some r) ∧ Aside0 (kq ≤ k) ∧ Aside0 (Below w.heap.size w w'))
  case atStart => exact ⟨(0), (by first | rfl | (simp; done) | (simp [*]; done)), H', ⟨Nat.le_refl _⟩, ⟨by repeat (first | (with_reducible first | exact HB.out | apply q11 | apply q9 | apply q10) | exact HB.out)⟩⟩
  case round =>
    clear H'
    try clear c1
    try clear p2
    obtain ⟨x5_1, rfl, HA, HK1, HB⟩ := hrel
    cases gk with
    | zero => exact absurd HA.out (by simp [chiasmusref01_form.l0])
    | succ k1 =>
      have H := HA.out; clear HA; simp only [chiasmusref01_form.l0] at H
      by_cases c3 : x5_1 < (l0.length : Int)
      · rw [if_pos c3] at H; have c3b0 : decide (x5_1 < (l0.length : Int)) = true := decide_eq_true c3; clear c3
        by_cases c4 : 0 ≤ x5_1
        · rw [if_pos c4] at H; have c4b0 : decide (0 ≤ x5_1) = true := decide_eq_true c4; clear c4; replace H := Option.bind_eq_some_iff.mp H; obtain ⟨t233, A50, H⟩ := H; replace H : (if t233 = true then (if ((rd_T42 l0 x5_1).f0) > a1 then (some false) else ((chiasmusref01_form.f k1 ((rd_T42 l0 x5_1).f2) a1).bind fun t236 => (if t236 = true then (chiasmusref01_form.l0 k1 l0 a1 (wrap64 (x5_1 + 1))) else (some false)))) else (some false)) = some r := H; have A5 := Aside0.mk A50; clear A50
          by_cases c6 : t233 = true
          · subst c6
            have H1 : (if ((rd_T42 l0 x5_1).f0) > a1 then (some false) else ((chiasmusref01_form.f k1 ((rd_T42 l0 x5_1).f2) a1).bind fun t236 => (if t236 = true then (chiasmusref01_form.l0 k1 l0 a1 (wrap64 (x5_1 + 1))) else (some false)))) = some r := by rw [if_pos rfl] at H; exact H
            clear H; have H := H1; clear H1
            by_cases c7 : ((rd_T42 l0 x5_1).f0) > a1
            · rw [if_pos c7] at H; have c7b0 : decide (a1 < ((rd_T42 l0 x5_1).f0)) = true := decide_eq_true c7; clear c7; obtain rfl := Option.some.inj H; have p232 : 0 ≤ (x5_1 : Int) := of_decide_eq_true (by first | (with_reducible assumption) | assumption); have q232 : x5_1 < (l0.length : Int) := of_decide_eq_true (by first | (with_reducible assumption) | assumption); obtain ⟨ad232, A232_2, c232_2, e232, hx232_0, hx232_1, hx232_2, hl232_2, hi232_2⟩ := at_T42 HR0.out x5_1 p232 q232; cases e232; replace hx232_0 := (HB.out.cell (World.block_lt_of_cell? w _ hx232_0)).trans hx232_0; replace hx232_1 := (HB.out.cell (World.block_lt_of_cell? w _ hx232_1)).trans hx232_1; replace hx232_2 := (HB.out.cell (World.block_lt_of_cell? w _ hx232_2)).trans hx232_2; have HR232_2 := Aside0.mk hi232_2; have HC232_2 := Aside0.mk hl232_2; clear hi232_2 hl232_2; replace p232 := eq_true p232; replace q232 := eq_true q232
              go_wp2_with (first | ((with_reducible refine q15 (f := 126) rfl ?_); refine goesL_ (some 16) rfl rfl Try.func126 (by kernel_rfl) rfl #[.agg #[.int .i64 ((rd_T42 l0 x5_1).f0), .string ((rd_T42 l0 x5_1).f1), .slice A232_2 ((rd_T42 l0 x5_1).f2).length c232_2]] rfl (by (try simp only [List.map_toArray, List.map_cons, List.map_nil]); first | done | rfl | (simp only [List.length_drop, List.length_take]; rfl)) ?_; (with_reducible refine (chiasmusref01_right.calls k1 ((rd_T42 l0 x5_1).f0) ((rd_T42 l0 x5_1).f1) _ _ ((rd_T42 l0 x5_1).f2) true _ ?side1 ?side2 A5.out).mono ?_); (case side1 => repeat (first | exact (Kd.C_below HR232_2.out HB.out) | (with_reducible refine Kd.C_alloc ?_ _) | (with_reducible refine Kd.C_drewN ?_ _) | (with_reducible refine Kd.C_drew ?_))); (case side2 => exact HC232_2.out); rintro e w8 ⟨rfl, hb⟩; refine ⟨_, rfl, ?_⟩; have n0_ := Aside0.mk (q14 (by repeat (first | (with_reducible first | exact HB.out | apply q11 | apply q9 | apply q10) | exact HB.out)) hb); clear HB; have HB := n0_; clear n0_; (try clear hb); (try clear hb2); (try clear hk); (try clear hi); have p234 : 0 ≤ (x5_1 : Int) := of_decide_eq_true (by first | (with_reducible assumption) | assumption); have q234 : x5_1 < (l0.length : Int) := of_decide_eq_true (by first | (with_reducible assumption) | assumption); obtain ⟨ad234, A234_2, c234_2, e234, hx234_0, hx234_1, hx234_2, hl234_2, hi234_2⟩ := at_T42 HR0.out x5_1 p234 q234; obtain rfl : ad232 = ad234 := (by injection e234); replace hx234_0 := (HB.out.cell (World.block_lt_of_cell? w _ hx234_0)).trans hx234_0; replace hx234_1 := (HB.out.cell (World.block_lt_of_cell? w _ hx234_1)).trans hx234_1; replace hx234_2 := (HB.out.cell (World.block_lt_of_cell? w _ hx234_2)).trans hx234_2; have HR234_2 := Aside0.mk hi234_2; have HC234_2 := Aside0.mk hl234_2; clear hi234_2 hl234_2; replace p234 := eq_true p234; replace q234 := eq_true q234))
              go_ret; exact ⟨by first | rfl | (simp [errW_none, errW_some] <;> rfl) | (simp [*, errW_none, errW_some] <;> rfl), by repeat (first | (with_reducible first | exact HB.out | apply q11 | apply q9 | apply q10) | exact HB.out)⟩
            · rw [if_neg c7] at H; have c7b0 : decide (a1 < ((rd_T42 l0 x5_1).f0)) = false := decide_eq_false c7; clear c7; replace H := Option.bind_eq_some_iff.mp H; obtain ⟨t236, A90, H⟩ := H; replace H : (if t236 = true then (chiasmusref01_form.l0 k1 l0 a1 (wrap64 (x5_1 + 1))) else (some false)) = some r := H; have A9 := Aside0.mk A90; clear A90
              by_cases c10 : t236 = true
              · subst c10
                have H1 : (chiasmusref01_form.l0 k1 l0 a1 (wrap64 (x5_1 + 1))) = some r := by rw [if_pos rfl] at H; exact H
                clear H; have H := H1; clear H1; have H' := Aside0.mk H; clear H; have p232 : 0 ≤ (x5_1 : Int) := of_decide_eq_true (by first | (with_reducible assumption) | assumption); have q232 : x5_1 < (l0.length : Int) := of_decide_eq_true (by first | (with_reducible assumption) | assumption); obtain ⟨ad232, A232_2, c232_2, e232, hx232_0, hx232_1, hx232_2, hl232_2, hi232_2⟩ := at_T42 HR0.out x5_1 p232 q232; cases e232; replace hx232_0 := (HB.out.cell (World.block_lt_of_cell? w _ hx232_0)).trans hx232_0; replace hx232_1 := (HB.out.cell (World.block_lt_of_cell? w _ hx232_1)).trans hx232_1; replace hx232_2 := (HB.out.cell (World.block_lt_of_cell? w _ hx232_2)).trans hx232_2; have HR232_2 := Aside0.mk hi232_2; have HC232_2 := Aside0.mk hl232_2; clear hi232_2 hl232_2; replace p232 := eq_true p232; replace q232 := eq_true q232
                go_wp2_with (first | ((with_reducible refine q15 (f := 126) rfl ?_); refine goesL_ (some 16) rfl rfl Try.func126 (by kernel_rfl) rfl #[.agg #[.int .i64 ((rd_T42 l0 x5_1).f0), .string ((rd_T42 l0 x5_1).f1), .slice A232_2 ((rd_T42 l0 x5_1).f2).length c232_2]] rfl (by (try simp only [List.map_toArray, List.map_cons, List.map_nil]); first | done | rfl | (simp only [List.length_drop, List.length_take]; rfl)) ?_; (with_reducible refine (chiasmusref01_right.calls k1 ((rd_T42 l0 x5_1).f0) ((rd_T42 l0 x5_1).f1) _ _ ((rd_T42 l0 x5_1).f2) true _ ?side1 ?side2 A5.out).mono ?_); (case side1 => repeat (first | exact (Kd.C_below HR232_2.out HB.out) | (with_reducible refine Kd.C_alloc ?_ _) | (with_reducible refine Kd.C_drewN ?_ _) | (with_reducible refine Kd.C_drew ?_))); (case side2 => exact HC232_2.out); rintro e w11 ⟨rfl, hb⟩; refine ⟨_, rfl, ?_⟩; have n0_ := Aside0.mk (q14 (by repeat (first | (with_reducible first | exact HB.out | apply q11 | apply q9 | apply q10) | exact HB.out)) hb); clear HB; have HB := n0_; clear n0_; (try clear hb); (try clear hb2); (try clear hk); (try clear hi); have p234 : 0 ≤ (x5_1 : Int) := of_decide_eq_true (by first | (with_reducible assumption) | assumption); have q234 : x5_1 < (l0.length : Int) := of_decide_eq_true (by first | (with_reducible assumption) | assumption); obtain ⟨ad234, A234_2, c234_2, e234, hx234_0, hx234_1, hx234_2, hl234_2, hi234_2⟩ := at_T42 HR0.out x5_1 p234 q234; obtain rfl : ad232 = ad234 := (by injection e234); replace hx234_0 := (HB.out.cell (World.block_lt_of_cell? w _ hx234_0)).trans hx234_0; replace hx234_1 := (HB.out.cell (World.block_lt_of_cell? w _ hx234_1)).trans hx234_1; replace hx234_2 := (HB.out.cell (World.block_lt_of_cell? w _ hx234_2)).trans hx234_2; have HR234_2 := Aside0.mk hi234_2; have HC234_2 := Aside0.mk hl234_2; clear hi234_2 hl234_2; replace p234 := eq_true p234; replace q234 := eq_true q234; have p235 : 0 ≤ (x5_1 : Int) := of_decide_eq_true (by first | (with_reducible assumption) | assumption); have q235 : x5_1 < (l0.length : Int) := of_decide_eq_true (by first | (with_reducible assumption) | assumption); obtain ⟨ad235, A235_2, c235_2, e235, hx235_0, hx235_1, hx235_2, hl235_2, hi235_2⟩ := at_T42 HR0.out x5_1 p235 q235; obtain rfl : ad232 = ad235 := (by injection e235); replace hx235_0 := (HB.out.cell (World.block_lt_of_cell? w _ hx235_0)).trans hx235_0; replace hx235_1 := (HB.out.cell (World.block_lt_of_cell? w _ hx235_1)).trans hx235_1; replace hx235_2 := (HB.out.cell (World.block_lt_of_cell? w _ hx235_2)).trans hx235_2; have HR235_2 := Aside0.mk hi235_2; have HC235_2 := Aside0.mk hl235_2; clear hi235_2 hl235_2; replace p235 := eq_true p235; replace q235 := eq_true q235; have ea_ := Option.some.inj (hx234_2.symm.trans hx235_2); injection ea_ with ea_ en_ ec_; subst ea_; subst ec_; clear en_) | (go_at_call 103; (with_reducible refine (ih k1 (by have := HK1.out; omega) _ _ ((rd_T42 l0 x5_1).f2) a1 true _ ?side1 ?side2 A9.out).mono ?_); (case side1 => repeat (first | exact (Kd.C_below HR235_2.out HB.out) | (with_reducible refine Kd.C_alloc ?_ _) | (with_reducible refine Kd.C_drewN ?_ _) | (with_reducible refine Kd.C_drew ?_))); (case side2 => exact HC235_2.out); rintro e w12 ⟨rfl, hb⟩; have n0_ := Aside0.mk (q14 (by repeat (first | (with_reducible first | exact HB.out | apply q11 | apply q9 | apply q10) | exact HB.out)) hb); clear HB; have HB := n0_; clear n0_; (try clear hb); (try clear hb2); (try clear hk); (try clear hi)))
                go_roundg k1
                case measure => have := HK1.out; omega
                case rel => exact ⟨(wrap64 (x5_1 + 1)), (by first | rfl | (simp; done) | (simp [*]; done)), H', ⟨by have := HK1.out; omega⟩, ⟨by repeat (first | (with_reducible first | exact HB.out | apply q11 | apply q9 | apply q10) | exact HB.out)⟩⟩
              · replace c10 := Bool.eq_false_iff.mpr c10; subst c10
                have H1 : (some false) = some r := by rw [if_neg (show ¬ (false = true) by decide)] at H; exact H
                clear H; have H := H1; clear H1; obtain rfl := Option.some.inj H; have p232 : 0 ≤ (x5_1 : Int) := of_decide_eq_true (by first | (with_reducible assumption) | assumption); have q232 : x5_1 < (l0.length : Int) := of_decide_eq_true (by first | (with_reducible assumption) | assumption); obtain ⟨ad232, A232_2, c232_2, e232, hx232_0, hx232_1, hx232_2, hl232_2, hi232_2⟩ := at_T42 HR0.out x5_1 p232 q232; cases e232; replace hx232_0 := (HB.out.cell (World.block_lt_of_cell? w _ hx232_0)).trans hx232_0; replace hx232_1 := (HB.out.cell (World.block_lt_of_cell? w _ hx232_1)).trans hx232_1; replace hx232_2 := (HB.out.cell (World.block_lt_of_cell? w _ hx232_2)).trans hx232_2; have HR232_2 := Aside0.mk hi232_2; have HC232_2 := Aside0.mk hl232_2; clear hi232_2 hl232_2; replace p232 := eq_true p232; replace q232 := eq_true q232
                go_wp2_with (first | ((with_reducible refine q15 (f := 126) rfl ?_); refine goesL_ (some 16) rfl rfl Try.func126 (by kernel_rfl) rfl #[.agg #[.int .i64 ((rd_T42 l0 x5_1).f0), .string ((rd_T42 l0 x5_1).f1), .slice A232_2 ((rd_T42 l0 x5_1).f2).length c232_2]] rfl (by (try simp only [List.map_toArray, List.map_cons, List.map_nil]); first | done | rfl | (simp only [List.length_drop, List.length_take]; rfl)) ?_; (with_reducible refine (chiasmusref01_right.calls k1 ((rd_T42 l0 x5_1).f0) ((rd_T42 l0 x5_1).f1) _ _ ((rd_T42 l0 x5_1).f2) true _ ?side1 ?side2 A5.out).mono ?_); (case side1 => repeat (first | exact (Kd.C_below HR232_2.out HB.out) | (with_reducible refine Kd.C_alloc ?_ _) | (with_reducible refine Kd.C_drewN ?_ _) | (with_reducible refine Kd.C_drew ?_))); (case side2 => exact HC232_2.out); rintro e w13 ⟨rfl, hb⟩; refine ⟨_, rfl, ?_⟩; have n0_ := Aside0.mk (q14 (by repeat (first | (with_reducible first | exact HB.out | apply q11 | apply q9 | apply q10) | exact HB.out)) hb); clear HB; have HB := n0_; clear n0_; (try clear hb); (try clear hb2); (try clear hk); (try clear hi); have p234 : 0 ≤ (x5_1 : Int) := of_decide_eq_true (by first | (with_reducible assumption) | assumption); have q234 : x5_1 < (l0.length : Int) := of_decide_eq_true (by first | (with_reducible assumption) | assumption); obtain ⟨ad234, A234_2, c234_2, e234, hx234_0, hx234_1, hx234_2, hl234_2, hi234_2⟩ := at_T42 HR0.out x5_1 p234 q234; obtain rfl : ad232 = ad234 := (by injection e234); replace hx234_0 := (HB.out.cell (World.block_lt_of_cell? w _ hx234_0)).trans hx234_0; replace hx234_1 := (HB.out.cell (World.block_lt_of_cell? w _ hx234_1)).trans hx234_1; replace hx234_2 := (HB.out.cell (World.block_lt_of_cell? w _ hx234_2)).trans hx234_2; have HR234_2 := Aside0.mk hi234_2; have HC234_2 := Aside0.mk hl234_2; clear hi234_2 hl234_2; replace p234 := eq_true p234; replace q234 := eq_true q234; have p235 : 0 ≤ (x5_1 : Int) := of_decide_eq_true (by first | (with_reducible assumption) | assumption); have q235 : x5_1 < (l0.length : Int) := of_decide_eq_true (by first | (with_reducible assumption) | assumption); obtain ⟨ad235, A235_2, c235_2, e235, hx235_0, hx235_1, hx235_2, hl235_2, hi235_2⟩ := at_T42 HR0.out x5_1 p235 q235; obtain rfl : ad232 = ad235 := (by injection e235); replace hx235_0 := (HB.out.cell (World.block_lt_of_cell? w _ hx235_0)).trans hx235_0; replace hx235_1 := (HB.out.cell (World.block_lt_of_cell? w _ hx235_1)).trans hx235_1; replace hx235_2 := (HB.out.cell (World.block_lt_of_cell? w _ hx235_2)).trans hx235_2; have HR235_2 := Aside0.mk hi235_2; have HC235_2 := Aside0.mk hl235_2; clear hi235_2 hl235_2; replace p235 := eq_true p235; replace q235 := eq_true q235; have ea_ := Option.some.inj (hx234_2.symm.trans hx235_2); injection ea_ with ea_ en_ ec_; subst ea_; subst ec_; clear en_) | (go_at_call 103; (with_reducible refine (ih k1 (by have := HK1.out; omega) _ _ ((rd_T42 l0 x5_1).f2) a1 false _ ?side1 ?side2 A9.out).mono ?_); (case side1 => repeat (first | exact (Kd.C_below HR235_2.out HB.out) | (with_reducible refine Kd.C_alloc ?_ _) | (with_reducible refine Kd.C_drewN ?_ _) | (with_reducible refine Kd.C_drew ?_))); (case side2 => exact HC235_2.out); rintro e w14 ⟨rfl, hb⟩; have n0_ := Aside0.mk (q14 (by repeat (first | (with_reducible first | exact HB.out | apply q11 | apply q9 | apply q10) | exact HB.out)) hb); clear HB; have HB := n0_; clear n0_; (try clear hb); (try clear hb2); (try clear hk); (try clear hi)))
                go_ret; exact ⟨by first | rfl | (simp [errW_none, errW_some] <;> rfl) | (simp [*, errW_none, errW_some] <;> rfl), by repeat (first | (with_reducible first | exact HB.out | apply q11 | apply q9 | apply q10) | exact HB.out)⟩
          · replace c6 := Bool.eq_false_iff.mpr c6; subst c6
            have H1 : (some false) = some r := by rw [if_neg (show ¬ (false = true) by decide)] at H; exact H
            clear H; have H := H1; clear H1; obtain rfl := Option.some.inj H; have p232 : 0 ≤ (x5_1 : Int) := of_decide_eq_true (by first | (with_reducible assumption) | assumption); have q232 : x5_1 < (l0.length : Int) := of_decide_eq_true (by first | (with_reducible assumption) | assumption); obtain ⟨ad232, A232_2, c232_2, e232, hx232_0, hx232_1, hx232_2, hl232_2, hi232_2⟩ := at_T42 HR0.out x5_1 p232 q232; cases e232; replace hx232_0 := (HB.out.cell (World.block_lt_of_cell? w _ hx232_0)).trans hx232_0; replace hx232_1 := (HB.out.cell (World.block_lt_of_cell? w _ hx232_1)).trans hx232_1; replace hx232_2 := (HB.out.cell (World.block_lt_of_cell? w _ hx232_2)).trans hx232_2; have HR232_2 := Aside0.mk hi232_2; have HC232_2 := Aside0.mk hl232_2; clear hi232_2 hl232_2; replace p232 := eq_true p232; replace q232 := eq_true q232
            go_wp2_with (first | ((with_reducible refine q15 (f := 126) rfl ?_); refine goesL_ (some 16) rfl rfl Try.func126 (by kernel_rfl) rfl #[.agg #[.int .i64 ((rd_T42 l0 x5_1).f0), .string ((rd_T42 l0 x5_1).f1), .slice A232_2 ((rd_T42 l0 x5_1).f2).length c232_2]] rfl (by (try simp only [List.map_toArray, List.map_cons, List.map_nil]); first | done | rfl | (simp only [List.length_drop, List.length_take]; rfl)) ?_; (with_reducible refine (chiasmusref01_right.calls k1 ((rd_T42 l0 x5_1).f0) ((rd_T42 l0 x5_1).f1) _ _ ((rd_T42 l0 x5_1).f2) false _ ?side1 ?side2 A5.out).mono ?_); (case side1 => repeat (first | exact (Kd.C_below HR232_2.out HB.out) | (with_reducible refine Kd.C_alloc ?_ _) | (with_reducible refine Kd.C_drewN ?_ _) | (with_reducible refine Kd.C_drew ?_))); (case side2 => exact HC232_2.out); rintro e w15 ⟨rfl, hb⟩; refine ⟨_, rfl, ?_⟩; have n0_ := Aside0.mk (q14 (by repeat (first | (with_reducible first | exact HB.out | apply q11 | apply q9 | apply q10) | exact HB.out)) hb); clear HB; have HB := n0_; clear n0_; (try clear hb); (try clear hb2); (try clear hk); (try clear hi)))
            go_ret; exact ⟨by first | rfl | (simp [errW_none, errW_some] <;> rfl) | (simp [*, errW_none, errW_some] <;> rfl), by repeat (first | (with_reducible first | exact HB.out | apply q11 | apply q9 | apply q10) | exact HB.out)⟩
        · rw [if_neg c4] at H; exact absurd H (by simp)
      · rw [if_neg c3] at H; have c3b0 : decide (x5_1 < (l0.length : Int)) = false := decide_eq_false c3; clear c3; obtain rfl := Option.some.inj H
        go_wp2
        go_ret; exact ⟨by first | rfl | (simp [errW_none, errW_some] <;> rfl) | (simp [*, errW_none, errW_some] <;> rfl), by repeat (first | (with_reducible first | exact HB.out | apply q11 | apply q9 | apply q10) | exact HB.out)⟩
def chiasmusref01_wrong.f (k : Nat) (l0 : List (S42)) (a1 : Int) : Option (Int) := (chiasmusref01_Size.f k l0).bind fun bt237 => (if bt237.1 > 4000 then (some 5) else (if bt237.2 > 100 then (some 6) else ((chiasmusref01_form.f k l0 a1).bind fun t239 => (if t239 = true then (some 0) else (some 2)))))
set_option maxHeartbeats 8000000 in
set_option maxRecDepth 100000 in
theorem chiasmusref01_wrong.calls (k : Nat) (A0 : Option Addr) (c0 : Nat) (l0 : List (S42)) (a1 : Int) (r : Int) (w : World) (hr0 : Kd.C k42 w A0 l0.length l0) (hc0 : l0.length ≤ c0) (h : chiasmusref01_wrong.f k l0 a1 = some r) :
    Calls Try.prog 67 #[.slice A0 l0.length c0, .int .i64 a1] w fun e w' => e = .returned (.int .i64 r) ∧ Below w.heap.size w w' := by
  have HR0 := Aside0.mk hr0; have HC0 := Aside0.mk hc0; clear hr0 hc0; have HB := Aside0.mk (Below.refl w.heap.size w); have H : ((chiasmusref01_Size.f k l0).bind fun bt237 => (if bt237.1 > 4000 then (some 5) else (if bt237.2 > 100 then (some 6) else ((chiasmusref01_form.f k l0 a1).bind fun t239 => (if t239 = true then (some 0) else (some 2)))))) = some r := h; clear h; replace H := Option.bind_eq_some_iff.mp H; obtain ⟨⟨t237, t238⟩, A30, H⟩ := H; replace H : (if t237 > 4000 then (some 5) else (if t238 > 100 then (some 6) else ((chiasmusref01_form.f k l0 a1).bind fun t239 => (if t239 = true then (some 0) else (some 2))))) = some r := H; have A3 := Aside0.mk A30; clear A30
  by_cases c4 : t237 > 4000
  · rw [if_pos c4] at H; have c4b0 : decide (4000 < t237) = true := decide_eq_true c4; clear c4; obtain rfl := Option.some.inj H
    go_enter Try.func67, Try.ntmps67
    go_wp2_with (first | ((with_reducible refine q15 (f := 18) rfl ?_); refine goesL_ (some 9) rfl rfl Try.func18 (by kernel_rfl) rfl #[.slice A0 l0.length c0] rfl (by (try simp only [List.map_toArray, List.map_cons, List.map_nil]); first | done | rfl | (simp only [List.length_drop, List.length_take]; rfl)) ?_; (with_reducible refine (chiasmusref01_Size.calls k _ _ l0 t237 t238 _ ?side1 ?side2 A3.out).mono ?_); (case side1 => repeat (first | exact HR0.out | (with_reducible refine Kd.C_alloc ?_ _) | (with_reducible refine Kd.C_drewN ?_ _) | (with_reducible refine Kd.C_drew ?_))); (case side2 => exact HC0.out); rintro e w5 ⟨rfl, hb⟩; refine ⟨_, rfl, ?_⟩; have n0_ := Aside0.mk (q14 (by repeat (first | (with_reducible first | exact HB.out | apply q11 | apply q9 | apply q10) | exact HB.out)) hb); clear HB; have HB := n0_; clear n0_; (try clear hb); (try clear hb2); (try clear hk); (try clear hi)))
    go_ret; exact ⟨by first | rfl | (simp [errW_none, errW_some] <;> rfl) | (simp [*, errW_none, errW_some] <;> rfl), by repeat (first | (with_reducible first | exact HB.out | apply q11 | apply q9 | apply q10) | exact HB.out)⟩
  · rw [if_neg c4] at H; have c4b0 : decide (4000 < t237) = false := decide_eq_false c4; clear c4
    by_cases c6 : t238 > 100
    · rw [if_pos c6] at H; have c6b0 : decide (100 < t238) = true := decide_eq_true c6; clear c6; obtain rfl := Option.some.inj H
      go_enter Try.func67, Try.ntmps67
      go_wp2_with (first | ((with_reducible refine q15 (f := 18) rfl ?_); refine goesL_ (some 9) rfl rfl Try.func18 (by kernel_rfl) rfl #[.slice A0 l0.length c0] rfl (by (try simp only [List.map_toArray, List.map_cons, List.map_nil]); first | done | rfl | (simp only [List.length_drop, List.length_take]; rfl)) ?_; (with_reducible refine (chiasmusref01_Size.calls k _ _ l0 t237 t238 _ ?side1 ?side2 A3.out).mono ?_); (case side1 => repeat (first | exact HR0.out | (with_reducible refine Kd.C_alloc ?_ _) | (with_reducible refine Kd.C_drewN ?_ _) | (with_reducible refine Kd.C_drew ?_))); (case side2 => exact HC0.out); rintro e w7 ⟨rfl, hb⟩; refine ⟨_, rfl, ?_⟩; have n0_ := Aside0.mk (q14 (by repeat (first | (with_reducible first | exact HB.out | apply q11 | apply q9 | apply q10) | exact HB.out)) hb); clear HB; have HB := n0_; clear n0_; (try clear hb); (try clear hb2); (try clear hk); (try clear hi)))
      go_ret; exact ⟨by first | rfl | (simp [errW_none, errW_some] <;> rfl) | (simp [*, errW_none, errW_some] <;> rfl), by repeat (first | (with_reducible first | exact HB.out | apply q11 | apply q9 | apply q10) | exact HB.out)⟩
    · rw [if_neg c6] at H; have c6b0 : decide (100 < t238) = false := decide_eq_false c6; clear c6; replace H := Option.bind_eq_some_iff.mp H; obtain ⟨t239, A80, H⟩ := H; replace H : (if t239 = true then (some 0) else (some 2)) = some r := H; have A8 := Aside0.mk A80; clear A80
      by_cases c9 : t239 = true
      · subst c9
        have H1 : (some 0) = some r := by rw [if_pos rfl] at H; exact H
        clear H; have H := H1; clear H1; obtain rfl := Option.some.inj H
        go_enter Try.func67, Try.ntmps67
        go_wp2_with (first | ((with_reducible refine q15 (f := 18) rfl ?_); refine goesL_ (some 9) rfl rfl Try.func18 (by kernel_rfl) rfl #[.slice A0 l0.length c0] rfl (by (try simp only [List.map_toArray, List.map_cons, List.map_nil]); first | done | rfl | (simp only [List.length_drop, List.length_take]; rfl)) ?_; (with_reducible refine (chiasmusref01_Size.calls k _ _ l0 t237 t238 _ ?side1 ?side2 A3.out).mono ?_); (case side1 => repeat (first | exact HR0.out | (with_reducible refine Kd.C_alloc ?_ _) | (with_reducible refine Kd.C_drewN ?_ _) | (with_reducible refine Kd.C_drew ?_))); (case side2 => exact HC0.out); rintro e w10 ⟨rfl, hb⟩; refine ⟨_, rfl, ?_⟩; have n0_ := Aside0.mk (q14 (by repeat (first | (with_reducible first | exact HB.out | apply q11 | apply q9 | apply q10) | exact HB.out)) hb); clear HB; have HB := n0_; clear n0_; (try clear hb); (try clear hb2); (try clear hk); (try clear hi)) | ((with_reducible refine q15 (f := 103) rfl ?_); refine goesL_ (some 18) rfl rfl Try.func103 (by kernel_rfl) rfl #[.slice A0 l0.length c0, .int .i64 a1] rfl (by (try simp only [List.map_toArray, List.map_cons, List.map_nil]); first | done | rfl | (simp only [List.length_drop, List.length_take]; rfl)) ?_; (with_reducible refine (chiasmusref01_form.calls k _ _ l0 a1 true _ ?side1 ?side2 A8.out).mono ?_); (case side1 => repeat (first | exact (Kd.C_below HR0.out HB.out) | (with_reducible refine Kd.C_alloc ?_ _) | (with_reducible refine Kd.C_drewN ?_ _) | (with_reducible refine Kd.C_drew ?_))); (case side2 => exact HC0.out); rintro e w11 ⟨rfl, hb⟩; refine ⟨_, rfl, ?_⟩; have n0_ := Aside0.mk (q14 (by repeat (first | (with_reducible first | exact HB.out | apply q11 | apply q9 | apply q10) | exact HB.out)) hb); clear HB; have HB := n0_; clear n0_; (try clear hb); (try clear hb2); (try clear hk); (try clear hi)))
        go_ret; exact ⟨by first | rfl | (simp [errW_none, errW_some] <;> rfl) | (simp [*, errW_none, errW_some] <;> rfl), by repeat (first | (with_reducible first | exact HB.out | apply q11 | apply q9 | apply q10) | exact HB.out)⟩
      · replace c9 := Bool.eq_false_iff.mpr c9; subst c9
        have H1 : (some 2) = some r := by rw [if_neg (show ¬ (false = true) by decide)] at H; exact H
        clear H; have H := H1; clear H1; obtain rfl := Option.some.inj H
        go_enter Try.func67, Try.ntmps67
        go_wp2_with (first | ((with_reducible refine q15 (f := 18) rfl ?_); refine goesL_ (some 9) rfl rfl Try.func18 (by kernel_rfl) rfl #[.slice A0 l0.length c0] rfl (by (try simp only [List.map_toArray, List.map_cons, List.map_nil]); first | done | rfl | (simp only [List.length_drop, List.length_take]; rfl)) ?_; (with_reducible refine (chiasmusref01_Size.calls k _ _ l0 t237 t238 _ ?side1 ?side2 A3.out).mono ?_); (case side1 => repeat (first | exact HR0.out | (with_reducible refine Kd.C_alloc ?_ _) | (with_reducible refine Kd.C_drewN ?_ _) | (with_reducible refine Kd.C_drew ?_))); (case side2 => exact HC0.out); rintro e w12 ⟨rfl, hb⟩; refine ⟨_, rfl, ?_⟩; have n0_ := Aside0.mk (q14 (by repeat (first | (with_reducible first | exact HB.out | apply q11 | apply q9 | apply q10) | exact HB.out)) hb); clear HB; have HB := n0_; clear n0_; (try clear hb); (try clear hb2); (try clear hk); (try clear hi)) | ((with_reducible refine q15 (f := 103) rfl ?_); refine goesL_ (some 18) rfl rfl Try.func103 (by kernel_rfl) rfl #[.slice A0 l0.length c0, .int .i64 a1] rfl (by (try simp only [List.map_toArray, List.map_cons, List.map_nil]); first | done | rfl | (simp only [List.length_drop, List.length_take]; rfl)) ?_; (with_reducible refine (chiasmusref01_form.calls k _ _ l0 a1 false _ ?side1 ?side2 A8.out).mono ?_); (case side1 => repeat (first | exact (Kd.C_below HR0.out HB.out) | (with_reducible refine Kd.C_alloc ?_ _) | (with_reducible refine Kd.C_drewN ?_ _) | (with_reducible refine Kd.C_drew ?_))); (case side2 => exact HC0.out); rintro e w13 ⟨rfl, hb⟩; refine ⟨_, rfl, ?_⟩; have n0_ := Aside0.mk (q14 (by repeat (first | (with_reducible first | exact HB.out | apply q11 | apply q9 | apply q10) | exact HB.out)) hb); clear HB; have HB := n0_; clear n0_; (try clear hb); (try clear hb2); (try clear hk); (try clear hi)))
        go_ret; exact ⟨by first | rfl | (simp [errW_none, errW_some] <;> rfl) | (simp [*, errW_none, errW_some] <;> rfl), by repeat (first | (with_reducible first | exact HB.out | apply q11 | apply q9 | apply q10) | exact HB.out)⟩
def chiasmusref01_Value.f (k : Nat) (l0 : List (S42)) : Option (Int) := (chiasmusref01_wrong.f k l0 4).bind fun t240 => (some t240)
set_option maxHeartbeats 8000000 in
set_option maxRecDepth 100000 in
theorem chiasmusref01_Value.calls (k : Nat) (A0 : Option Addr) (c0 : Nat) (l0 : List (S42)) (r : Int) (w : World) (hr0 : Kd.C k42 w A0 l0.length l0) (hc0 : l0.length ≤ c0) (h : chiasmusref01_Value.f k l0 = some r) :
    Calls Try.prog 22 #[.slice A0 l0.length c0] w fun e w' => e = .returned (.int .i64 r) ∧ Below w.heap.size w w' := by
  have HR0 := Aside0.mk hr0; have HC0 := Aside0.mk hc0; clear hr0 hc0; have HB := Aside0.mk (Below.refl w.heap.size w); have H : ((chiasmusref01_wrong.f k l0 4).bind fun t240 => (some t240)) = some r := h; clear h; replace H := Option.bind_eq_some_iff.mp H; obtain ⟨t240, A20, H⟩ := H; replace H : (some t240) = some r := H; have A2 := Aside0.mk A20; clear A20; obtain rfl := Option.some.inj H
  go_enter Try.func22, Try.ntmps22
  go_wp2_with (first | ((with_reducible refine q15 (f := 67) rfl ?_); refine goesL_ (some 4) rfl rfl Try.func67 (by kernel_rfl) rfl #[.slice A0 l0.length c0, .int .i64 4] rfl (by (try simp only [List.map_toArray, List.map_cons, List.map_nil]); first | done | rfl | (simp only [List.length_drop, List.length_take]; rfl)) ?_; (with_reducible refine (chiasmusref01_wrong.calls k _ _ l0 4 t240 _ ?side1 ?side2 A2.out).mono ?_); (case side1 => repeat (first | exact HR0.out | (with_reducible refine Kd.C_alloc ?_ _) | (with_reducible refine Kd.C_drewN ?_ _) | (with_reducible refine Kd.C_drew ?_))); (case side2 => exact HC0.out); rintro e w3 ⟨rfl, hb⟩; refine ⟨_, rfl, ?_⟩; have n0_ := Aside0.mk (q14 (by repeat (first | (with_reducible first | exact HB.out | apply q11 | apply q9 | apply q10) | exact HB.out)) hb); clear HB; have HB := n0_; clear n0_; (try clear hb); (try clear hb2); (try clear hk); (try clear hi)))
  go_ret; exact ⟨by first | rfl | (simp [errW_none, errW_some] <;> rfl) | (simp [*, errW_none, errW_some] <;> rfl), by repeat (first | (with_reducible first | exact HB.out | apply q11 | apply q9 | apply q10) | exact HB.out)⟩
def chiasmusref01_Pattern.f (k : Nat) (l0 : List (S42)) : Option (Int) := (chiasmusref01_wrong.f k l0 7).bind fun t241 => (some t241)
set_option maxHeartbeats 8000000 in
set_option maxRecDepth 100000 in
theorem chiasmusref01_Pattern.calls (k : Nat) (A0 : Option Addr) (c0 : Nat) (l0 : List (S42)) (r : Int) (w : World) (hr0 : Kd.C k42 w A0 l0.length l0) (hc0 : l0.length ≤ c0) (h : chiasmusref01_Pattern.f k l0 = some r) :
    Calls Try.prog 23 #[.slice A0 l0.length c0] w fun e w' => e = .returned (.int .i64 r) ∧ Below w.heap.size w w' := by
  have HR0 := Aside0.mk hr0; have HC0 := Aside0.mk hc0; clear hr0 hc0; have HB := Aside0.mk (Below.refl w.heap.size w); have H : ((chiasmusref01_wrong.f k l0 7).bind fun t241 => (some t241)) = some r := h; clear h; replace H := Option.bind_eq_some_iff.mp H; obtain ⟨t241, A20, H⟩ := H; replace H : (some t241) = some r := H; have A2 := Aside0.mk A20; clear A20; obtain rfl := Option.some.inj H
  go_enter Try.func23, Try.ntmps23
  go_wp2_with (first | ((with_reducible refine q15 (f := 67) rfl ?_); refine goesL_ (some 4) rfl rfl Try.func67 (by kernel_rfl) rfl #[.slice A0 l0.length c0, .int .i64 7] rfl (by (try simp only [List.map_toArray, List.map_cons, List.map_nil]); first | done | rfl | (simp only [List.length_drop, List.length_take]; rfl)) ?_; (with_reducible refine (chiasmusref01_wrong.calls k _ _ l0 7 t241 _ ?side1 ?side2 A2.out).mono ?_); (case side1 => repeat (first | exact HR0.out | (with_reducible refine Kd.C_alloc ?_ _) | (with_reducible refine Kd.C_drewN ?_ _) | (with_reducible refine Kd.C_drew ?_))); (case side2 => exact HC0.out); rintro e w3 ⟨rfl, hb⟩; refine ⟨_, rfl, ?_⟩; have n0_ := Aside0.mk (q14 (by repeat (first | (with_reducible first | exact HB.out | apply q11 | apply q9 | apply q10) | exact HB.out)) hb); clear HB; have HB := n0_; clear n0_; (try clear hb); (try clear hb2); (try clear hk); (try clear hi)))
  go_ret; exact ⟨by first | rfl | (simp [errW_none, errW_some] <;> rfl) | (simp [*, errW_none, errW_some] <;> rfl), by repeat (first | (with_reducible first | exact HB.out | apply q11 | apply q9 | apply q10) | exact HB.out)⟩
def chiasmusref01_Result.f (k : Nat) (l0 : List (S42)) : Option (Int) := (chiasmusref01_wrong.f k l0 8).bind fun t242 => (some t242)
set_option maxHeartbeats 8000000 in
set_option maxRecDepth 100000 in
theorem chiasmusref01_Result.calls (k : Nat) (A0 : Option Addr) (c0 : Nat) (l0 : List (S42)) (r : Int) (w : World) (hr0 : Kd.C k42 w A0 l0.length l0) (hc0 : l0.length ≤ c0) (h : chiasmusref01_Result.f k l0 = some r) :
    Calls Try.prog 24 #[.slice A0 l0.length c0] w fun e w' => e = .returned (.int .i64 r) ∧ Below w.heap.size w w' := by
  have HR0 := Aside0.mk hr0; have HC0 := Aside0.mk hc0; clear hr0 hc0; have HB := Aside0.mk (Below.refl w.heap.size w); have H : ((chiasmusref01_wrong.f k l0 8).bind fun t242 => (some t242)) = some r := h; clear h; replace H := Option.bind_eq_some_iff.mp H; obtain ⟨t242, A20, H⟩ := H; replace H : (some t242) = some r := H; have A2 := Aside0.mk A20; clear A20; obtain rfl := Option.some.inj H
  go_enter Try.func24, Try.ntmps24
  go_wp2_with (first | ((with_reducible refine q15 (f := 67) rfl ?_); refine goesL_ (some 4) rfl rfl Try.func67 (by kernel_rfl) rfl #[.slice A0 l0.length c0, .int .i64 8] rfl (by (try simp only [List.map_toArray, List.map_cons, List.map_nil]); first | done | rfl | (simp only [List.length_drop, List.length_take]; rfl)) ?_; (with_reducible refine (chiasmusref01_wrong.calls k _ _ l0 8 t242 _ ?side1 ?side2 A2.out).mono ?_); (case side1 => repeat (first | exact HR0.out | (with_reducible refine Kd.C_alloc ?_ _) | (with_reducible refine Kd.C_drewN ?_ _) | (with_reducible refine Kd.C_drew ?_))); (case side2 => exact HC0.out); rintro e w3 ⟨rfl, hb⟩; refine ⟨_, rfl, ?_⟩; have n0_ := Aside0.mk (q14 (by repeat (first | (with_reducible first | exact HB.out | apply q11 | apply q9 | apply q10) | exact HB.out)) hb); clear HB; have HB := n0_; clear n0_; (try clear hb); (try clear hb2); (try clear hk); (try clear hi)))
  go_ret; exact ⟨by first | rfl | (simp [errW_none, errW_some] <;> rfl) | (simp [*, errW_none, errW_some] <;> rfl), by repeat (first | (with_reducible first | exact HB.out | apply q11 | apply q9 | apply q10) | exact HB.out)⟩
end Go.Proofs.Ytdbjjaodkapikaa.TE
