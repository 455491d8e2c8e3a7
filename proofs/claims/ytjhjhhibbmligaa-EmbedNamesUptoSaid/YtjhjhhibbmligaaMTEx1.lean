/- Part of the walk: lemmas and printed functions that the claim uses (wip/tools/trim.py). -/
import Derived.Test.YtjhjhhibbmligaaMTEx0
namespace Go.Proofs.Ytjhjhhibbmligaa.TE
open Go.RowKit Go.Proofs.YtjhjhhibbmligaaW.PrintWords Go.Proofs.YtjhjhhibbmligaaW.PrintLast Go.Proofs.YtjhjhhibbmligaaW.PrintMore
attribute [local go_sem] max2_int min2_int max_two min_two max_three min_three max_four min_four
set_option linter.unusedVariables false
set_option linter.unusedSimpArgs false
def slices_Equal_string_string.l0 : Nat → List ByteArray → List ByteArray → Int → Int → Option (Bool)
  | 0, _, _, _, _ => none
  | k + 1, x0, x1, x12, x13 => if x13 < x12 then (if 0 ≤ x13 then (if x13 < (x0.length : Int) then (if x13 < (x1.length : Int) then (if (rdOf ByteArray.empty x0 x13).toList = (rdOf ByteArray.empty x1 x13).toList then (slices_Equal_string_string.l0 k x0 x1 x12 (wrap64 (x13 + 1))) else (some false)) else (none)) else (none)) else (none)) else (some true)
def slices_Equal_string_string.f (k : Nat) (l0 : List ByteArray) (l1 : List ByteArray) : Option (Bool) := if (l0.length : Int) = (l1.length : Int) then (slices_Equal_string_string.l0 k l0 l1 (l0.length : Int) 0) else (some false)
set_option maxHeartbeats 8000000 in
set_option maxRecDepth 100000 in
theorem slices_Equal_string_string.calls (k : Nat) (A0 : Option Addr) (c0 : Nat) (l0 : List ByteArray) (A1 : Option Addr) (c1 : Nat) (l1 : List ByteArray) (r : Bool) (w : World) (hr0 : Kd.C Kd.string w A0 l0.length l0) (hc0 : l0.length ≤ c0) (hr1 : Kd.C Kd.string w A1 l1.length l1) (hc1 : l1.length ≤ c1) (h : slices_Equal_string_string.f k l0 l1 = some r) :
    Calls Try.prog 19 #[.slice A0 l0.length c0, .slice A1 l1.length c1] w fun e w' => e = .returned (.bool r) ∧ Drawn0 w w' := by
  have HR0 := Aside0.mk hr0; have HC0 := Aside0.mk hc0; clear hr0 hc0; have HR1 := Aside0.mk hr1; have HC1 := Aside0.mk hc1; clear hr1 hc1; have H : (if (l0.length : Int) = (l1.length : Int) then (slices_Equal_string_string.l0 k l0 l1 (l0.length : Int) 0) else (some false)) = some r := h; clear h
  by_cases c3 : (l0.length : Int) = (l1.length : Int)
  · rw [if_pos c3] at H; have c3b0 : ((l0.length : Int) == (l1.length : Int)) = true := beq_iff_eq.mpr c3; have c3b1 : ((l0.length : Int) != (l1.length : Int)) = false := bne_eq_false_iff_eq.mpr c3
    have c3b2 : (l0.length == l1.length) = true := by first | simpa using c3 | (simp at c3 ⊢; omega)
    clear c3; have H' := Aside0.mk H; clear H
    go_enter Try.func19, Try.ntmps19
    go_wp2
    repeat (go_quiet (fail); try go_wp2)
    go_loopg [13] k (fun kq v13 w' => ∃ (x13_1 : Int), v13 = .int .i64 x13_1 ∧ Aside0 (slices_Equal_string_string.l0 kq l0 l1 (l0.length : Int) x13_1 = some r) ∧ Aside0 (kq ≤ k) ∧ Drawn0 w w')
    case atStart => exact ⟨(0), (by first | rfl | (simp; done) | (simp [*]; done)), H', ⟨Nat.le_refl _⟩, by repeat (first | exact Drawn0.refl _ | apply Drawn0.step)⟩
    case round =>
      clear H'
      try clear c1
      try clear p2
      try clear c3
      try clear c3b0
      try clear c3b1
      try clear c3b2
      obtain ⟨x13_1, rfl, HA, HK1, ⟨m1, rfl⟩⟩ := hrel
      cases gk with
      | zero => exact absurd HA.out (by simp [slices_Equal_string_string.l0])
      | succ k1 =>
        have H := HA.out; clear HA; simp only [slices_Equal_string_string.l0] at H
        by_cases c4 : x13_1 < (l0.length : Int)
        · rw [if_pos c4] at H; have c4b0 : decide (x13_1 < (l0.length : Int)) = true := decide_eq_true c4; clear c4
          by_cases c5 : 0 ≤ x13_1
          · rw [if_pos c5] at H; have c5b0 : decide (0 ≤ x13_1) = true := decide_eq_true c5; clear c5
            by_cases c6 : x13_1 < (l0.length : Int)
            · rw [if_pos c6] at H; have c6b0 : decide (x13_1 < (l0.length : Int)) = true := decide_eq_true c6; clear c6
              by_cases c7 : x13_1 < (l1.length : Int)
              · rw [if_pos c7] at H; have c7b0 : decide (x13_1 < (l1.length : Int)) = true := decide_eq_true c7; clear c7
                by_cases c8 : (rdOf ByteArray.empty l0 x13_1).toList = (rdOf ByteArray.empty l1 x13_1).toList
                · rw [if_pos c8] at H; have c8b0 : ((rdOf ByteArray.empty l0 x13_1).toList == (rdOf ByteArray.empty l1 x13_1).toList) = true := beq_iff_eq.mpr c8; have c8b1 : ((rdOf ByteArray.empty l0 x13_1).toList != (rdOf ByteArray.empty l1 x13_1).toList) = false := bne_eq_false_iff_eq.mpr c8; clear c8; have H' := Aside0.mk H; clear H; have p101 : 0 ≤ (x13_1 : Int) := of_decide_eq_true (by first | (with_reducible assumption) | assumption); have q101 : x13_1 < (l0.length : Int) := of_decide_eq_true (by first | (with_reducible assumption) | assumption); obtain ⟨ad101, e101, hx101_0⟩ := Kd.at_string HR0.out x13_1 p101 q101; cases e101; replace p101 := eq_true p101; replace q101 := eq_true q101; have p102 : 0 ≤ (x13_1 : Int) := of_decide_eq_true (by first | (with_reducible assumption) | assumption); have q102 : x13_1 < (l1.length : Int) := of_decide_eq_true (by first | (with_reducible assumption) | assumption); obtain ⟨ad102, e102, hx102_0⟩ := Kd.at_string HR1.out x13_1 p102 q102; cases e102; replace p102 := eq_true p102; replace q102 := eq_true q102
                  go_wp2
                  repeat (go_quiet (fail); try go_wp2)
                  go_roundg k1
                  case measure => have := HK1.out; omega
                  case rel => exact ⟨(wrap64 (x13_1 + 1)), (by first | rfl | (simp; done) | (simp [*]; done)), H', ⟨by have := HK1.out; omega⟩, by repeat (first | exact Drawn0.refl _ | apply Drawn0.step)⟩
                · rw [if_neg c8] at H; have c8b0 : ((rdOf ByteArray.empty l0 x13_1).toList == (rdOf ByteArray.empty l1 x13_1).toList) = false := beq_eq_false_iff_ne.mpr c8; have c8b1 : ((rdOf ByteArray.empty l0 x13_1).toList != (rdOf ByteArray.empty l1 x13_1).toList) = true := bne_iff_ne.mpr c8; obtain rfl := Option.some.inj H; have p101 : 0 ≤ (x13_1 : Int) := of_decide_eq_true (by first | (with_reducible assumption) | assumption); have q101 : x13_1 < (l0.length : Int) := of_decide_eq_true (by first | (with_reducible assumption) | assumption); obtain ⟨ad101, e101, hx101_0⟩ := Kd.at_string HR0.out x13_1 p101 q101; cases e101; replace p101 := eq_true p101; replace q101 := eq_true q101; have p102 : 0 ≤ (x13_1 : Int) := of_decide_eq_true (by first | (with_reducible assumption) | assumption); have q102 : x13_1 < (l1.length : Int) := of_decide_eq_true (by first | (with_reducible assumption) | assumption); obtain ⟨ad102, e102, hx102_0⟩ := Kd.at_string HR1.out x13_1 p102 q102; cases e102; replace p102 := eq_true p102; replace q102 := eq_true q102
                  go_wp2
                  repeat (go_quiet (fail); try go_wp2)
                  go_ret; exact ⟨by first | rfl | (simp; done) | (simp [*]; done), by repeat (first | exact Drawn0.refl _ | apply Drawn0.step)⟩
              · rw [if_neg c7] at H; exact absurd H (by simp)
            · rw [if_neg c6] at H; exact absurd H (by simp)
          · rw [if_neg c5] at H; exact absurd H (by simp)
        · rw [if_neg c4] at H; have c4b0 : decide (x13_1 < (l0.length : Int)) = false := decide_eq_false c4; clear c4; obtain rfl := Option.some.inj H
          go_wp2
          repeat (go_quiet (fail); try go_wp2)
          go_ret; exact ⟨by first | rfl | (simp; done) | (simp [*]; done), by repeat (first | exact Drawn0.refl _ | apply Drawn0.step)⟩
  · rw [if_neg c3] at H; have c3b0 : ((l0.length : Int) == (l1.length : Int)) = false := beq_eq_false_iff_ne.mpr c3; have c3b1 : ((l0.length : Int) != (l1.length : Int)) = true := bne_iff_ne.mpr c3
    have c3b2 : (l0.length == l1.length) = false := by first | simpa using c3 | (simp at c3 ⊢; omega)
    obtain rfl := Option.some.inj H
    go_enter Try.func19, Try.ntmps19
    go_wp2
    repeat (go_quiet (fail); try go_wp2)
    go_ret; exact ⟨by first | rfl | (simp; done) | (simp [*]; done), by repeat (first | exact Drawn0.refl _ | apply Drawn0.step)⟩
def embed_of.f (a0_0 : Int) (a0_1 : ByteArray) (l0_2 : List (S42)) : Option (Int × ByteArray) := if a0_0 = 8 then (some (a0_0, a0_1)) else (some (a0_0, (⟨#[]⟩ : ByteArray)))
set_option maxHeartbeats 8000000 in
set_option maxRecDepth 100000 in
theorem embed_of.calls (a0_0 : Int) (a0_1 : ByteArray) (A0_2 : Option Addr) (c0_2 : Nat) (l0_2 : List (S42)) (r1 : Int) (r2 : ByteArray) (w : World) (hr0_2 : Kd.C k42 w A0_2 l0_2.length l0_2) (hc0_2 : l0_2.length ≤ c0_2) (h : embed_of.f a0_0 a0_1 l0_2 = some (r1, r2)) :
    Calls Try.prog 105 #[.agg #[.int .i64 a0_0, .string a0_1, .slice A0_2 l0_2.length c0_2]] w fun e w' => e = .returned (.agg #[.int .i64 r1, .string r2]) ∧ Below w.heap.size w w' := by
  have hu42 := Try.underlying42; have hu103 := Try.underlying103; have HR0_2 := Aside0.mk hr0_2; have HC0_2 := Aside0.mk hc0_2; clear hr0_2 hc0_2; have HB := Aside0.mk (Below.refl w.heap.size w); have H : (if a0_0 = 8 then (some (a0_0, a0_1)) else (some (a0_0, (⟨#[]⟩ : ByteArray)))) = some (r1, r2) := h; clear h
  by_cases c2 : a0_0 = 8
  · rw [if_pos c2] at H; have c2b0 : (a0_0 == 8) = true := beq_iff_eq.mpr c2; have c2b1 : (a0_0 != 8) = false := bne_eq_false_iff_eq.mpr c2; clear c2; simp only [Option.some.injEq, Prod.mk.injEq] at H; obtain ⟨rfl, rfl⟩ := H
    go_enter Try.func105, Try.ntmps105
    go_wp2_with (first | ((with_reducible refine q20 (N := 1) rfl ?_); refine q16 ?hg (N := 1) ?hd (cs := #[.int .i64 a0_0, .string a0_1, .slice A0_2 l0_2.length c0_2]) (t := 42) ?hr ?_; (case hd => rfl); (case hg => rfl); (case hr => first | (go_simp; done) | (go_simp; rfl)); intro gb103 hg w3 hbox hb; have n0_ := Aside0.mk (q12 (by repeat (first | (with_reducible first | exact HB.out | apply q9 | apply q5 | apply q10) | exact HB.out)) hb); have n1_ := Aside0.mk (hbox); have n2_ := Aside0.mk ((by rw [hg]; exact (q14 (by repeat (first | (with_reducible first | exact HB.out | apply q9 | apply q5 | apply q10) | exact HB.out))) : w.heap.size ≤ gb103)); have n3_ := Aside0.mk ((by rw [hg]; exact (q14 (by repeat (first | (with_reducible first | exact HB.out | apply q9 | apply q5 | apply q10) | exact HB.out))) : w.heap.size ≤ gb103)); clear HB; have HB := n0_; have BK103 := n1_; have GW103 := n2_; have GE103 := n3_; clear n0_ n1_ n2_ n3_; clear hb hbox hg) | ((with_reducible refine q20 (N := 2) rfl ?_); refine q16 ?hg (N := 2) ?hd (cs := #[.int .i64 0, .string (⟨#[]⟩ : ByteArray)]) (t := 103) ?hr ?_; (case hd => rfl); (case hg => rfl); (case hr => first | (go_simp; done) | (go_simp; rfl)); intro gb104 hg w4 hbox hb; have n0_ := Aside0.mk (q13 (g := gb103) (o := .cells #[.int .i64 a0_0, .string a0_1, .slice A0_2 l0_2.length c0_2] 42 (0, 0)) (by (with_reducible repeat (first | refine q18 ?_ _ | refine q22 ?_ | refine q19 ?_ _)); exact BK103.out) hb); have n1_ := Aside0.mk (q12 (by repeat (first | (with_reducible first | exact HB.out | apply q9 | apply q5 | apply q10 | refine q15 ?_ GE103.out) | exact HB.out)) hb); have n2_ := Aside0.mk (hbox); have n3_ := Aside0.mk ((by rw [hg]; exact (q14 (by repeat (first | (with_reducible first | exact HB.out | apply q9 | apply q5 | apply q10 | refine q15 ?_ GE103.out) | exact HB.out))) : w.heap.size ≤ gb104)); have n4_ := Aside0.mk ((by rw [hg]; exact (q14 (by repeat (first | (with_reducible first | exact HB.out | apply q9 | apply q5 | apply q10 | refine q15 ?_ GE103.out) | exact HB.out))) : w.heap.size ≤ gb104)); have n5_ := Aside0.mk ((by rw [hg]; exact Nat.ne_of_lt (blk_lt (g := gb103) (o := .cells #[.int .i64 a0_0, .string a0_1, .slice A0_2 l0_2.length c0_2] 42 (0, 0)) (by (with_reducible repeat (first | refine q18 ?_ _ | refine q22 ?_ | refine q19 ?_ _)); exact BK103.out)) : gb103 ≠ gb104)); have n6_ := Aside0.mk ((by rw [hg]; exact Nat.ne_of_gt (blk_lt (g := gb103) (o := .cells #[.int .i64 a0_0, .string a0_1, .slice A0_2 l0_2.length c0_2] 42 (0, 0)) (by (with_reducible repeat (first | refine q18 ?_ _ | refine q22 ?_ | refine q19 ?_ _)); exact BK103.out)) : gb104 ≠ gb103)); clear BK103; clear HB; have BK103 := n0_; have HB := n1_; have BK104 := n2_; have GW104 := n3_; have GE104 := n4_; have NB103_104 := n5_; have NB104_103 := n6_; clear n0_ n1_ n2_ n3_ n4_ n5_ n6_; clear hb hbox hg; have hnb5 := NB103_104.out; have hnc5 := NB104_103.out; have hcz6_0 : w4.cell? ⟨gb103, 0, none⟩ = some (.int .i64 a0_0) := (q4 BK103.out 0).trans rfl; have hcz6_1 : w4.cell? ⟨gb103, 1, none⟩ = some (.string a0_1) := (q4 BK103.out 1).trans rfl; have hcz6_2 : w4.cell? ⟨gb103, 2, none⟩ = some (.slice A0_2 l0_2.length c0_2) := (q4 BK103.out 2).trans rfl; have hfz6_0 := q11 BK103.out 0; have hfz6_1 := q11 BK103.out 1; have hfz6_2 := q11 BK103.out 2; have hcz7_0 : w4.cell? ⟨gb104, 0, none⟩ = some (.int .i64 0) := (q4 BK104.out 0).trans rfl; have hcz7_1 : w4.cell? ⟨gb104, 1, none⟩ = some (.string (⟨#[]⟩ : ByteArray)) := (q4 BK104.out 1).trans rfl; have hfz7_0 := q11 BK104.out 0; have hfz7_1 := q11 BK104.out 1))
    refine bodyPost_ret (results_cell_row rfl _ _ gb104 103 #[.int .i64 a0_0, .string a0_1] (0, 0) _ rfl (by (with_reducible repeat (first | refine q18 ?_ _ | refine q22 ?_ | refine q19 ?_ _)); refine blk_put (cs := #[.int .i64 a0_0, .string (⟨#[]⟩ : ByteArray)]) ?_ 1 _ rfl; (with_reducible repeat (first | refine q18 ?_ _ | refine q22 ?_ | refine q19 ?_ _)); refine blk_put (cs := #[.int .i64 0, .string (⟨#[]⟩ : ByteArray)]) ?_ 0 _ rfl; (with_reducible repeat (first | refine q18 ?_ _ | refine q22 ?_ | refine q19 ?_ _)); exact BK104.out) Try.underlying103 rfl (by kernel_rfl)) rfl ?_; exact ⟨by first | rfl | (simp [errW_none, errW_some] <;> rfl) | (simp [*, errW_none, errW_some] <;> rfl), by repeat (first | (with_reducible first | exact HB.out | apply q9 | apply q5 | apply q10 | refine q15 ?_ GE103.out | refine q15 ?_ GE104.out) | exact HB.out)⟩
  · rw [if_neg c2] at H; have c2b0 : (a0_0 == 8) = false := beq_eq_false_iff_ne.mpr c2; have c2b1 : (a0_0 != 8) = true := bne_iff_ne.mpr c2; simp only [Option.some.injEq, Prod.mk.injEq] at H; obtain ⟨rfl, rfl⟩ := H
    go_enter Try.func105, Try.ntmps105
    go_wp2_with (first | ((with_reducible refine q20 (N := 1) rfl ?_); refine q16 ?hg (N := 1) ?hd (cs := #[.int .i64 a0_0, .string a0_1, .slice A0_2 l0_2.length c0_2]) (t := 42) ?hr ?_; (case hd => rfl); (case hg => rfl); (case hr => first | (go_simp; done) | (go_simp; rfl)); intro gb103 hg w8 hbox hb; have n0_ := Aside0.mk (q12 (by repeat (first | (with_reducible first | exact HB.out | apply q9 | apply q5 | apply q10) | exact HB.out)) hb); have n1_ := Aside0.mk (hbox); have n2_ := Aside0.mk ((by rw [hg]; exact (q14 (by repeat (first | (with_reducible first | exact HB.out | apply q9 | apply q5 | apply q10) | exact HB.out))) : w.heap.size ≤ gb103)); have n3_ := Aside0.mk ((by rw [hg]; exact (q14 (by repeat (first | (with_reducible first | exact HB.out | apply q9 | apply q5 | apply q10) | exact HB.out))) : w.heap.size ≤ gb103)); clear HB; have HB := n0_; have BK103 := n1_; have GW103 := n2_; have GE103 := n3_; clear n0_ n1_ n2_ n3_; clear hb hbox hg) | ((with_reducible refine q20 (N := 2) rfl ?_); refine q16 ?hg (N := 2) ?hd (cs := #[.int .i64 0, .string (⟨#[]⟩ : ByteArray)]) (t := 103) ?hr ?_; (case hd => rfl); (case hg => rfl); (case hr => first | (go_simp; done) | (go_simp; rfl)); intro gb104 hg w9 hbox hb; have n0_ := Aside0.mk (q13 (g := gb103) (o := .cells #[.int .i64 a0_0, .string a0_1, .slice A0_2 l0_2.length c0_2] 42 (0, 0)) (by (with_reducible repeat (first | refine q18 ?_ _ | refine q22 ?_ | refine q19 ?_ _)); exact BK103.out) hb); have n1_ := Aside0.mk (q12 (by repeat (first | (with_reducible first | exact HB.out | apply q9 | apply q5 | apply q10 | refine q15 ?_ GE103.out) | exact HB.out)) hb); have n2_ := Aside0.mk (hbox); have n3_ := Aside0.mk ((by rw [hg]; exact (q14 (by repeat (first | (with_reducible first | exact HB.out | apply q9 | apply q5 | apply q10 | refine q15 ?_ GE103.out) | exact HB.out))) : w.heap.size ≤ gb104)); have n4_ := Aside0.mk ((by rw [hg]; exact (q14 (by repeat (first | (with_reducible first | exact HB.out | apply q9 | apply q5 | apply q10 | refine q15 ?_ GE103.out) | exact HB.out))) : w.heap.size ≤ gb104)); have n5_ := Aside0.mk ((by rw [hg]; exact Nat.ne_of_lt (blk_lt (g := gb103) (o := .cells #[.int .i64 a0_0, .string a0_1, .slice A0_2 l0_2.length c0_2] 42 (0, 0)) (by (with_reducible repeat (first | refine q18 ?_ _ | refine q22 ?_ | refine q19 ?_ _)); exact BK103.out)) : gb103 ≠ gb104)); have n6_ := Aside0.mk ((by rw [hg]; exact Nat.ne_of_gt (blk_lt (g := gb103) (o := .cells #[.int .i64 a0_0, .string a0_1, .slice A0_2 l0_2.length c0_2] 42 (0, 0)) (by (with_reducible repeat (first | refine q18 ?_ _ | refine q22 ?_ | refine q19 ?_ _)); exact BK103.out)) : gb104 ≠ gb103)); clear BK103; clear HB; have BK103 := n0_; have HB := n1_; have BK104 := n2_; have GW104 := n3_; have GE104 := n4_; have NB103_104 := n5_; have NB104_103 := n6_; clear n0_ n1_ n2_ n3_ n4_ n5_ n6_; clear hb hbox hg; have hnb10 := NB103_104.out; have hnc10 := NB104_103.out; have hcz11_0 : w9.cell? ⟨gb103, 0, none⟩ = some (.int .i64 a0_0) := (q4 BK103.out 0).trans rfl; have hcz11_1 : w9.cell? ⟨gb103, 1, none⟩ = some (.string a0_1) := (q4 BK103.out 1).trans rfl; have hcz11_2 : w9.cell? ⟨gb103, 2, none⟩ = some (.slice A0_2 l0_2.length c0_2) := (q4 BK103.out 2).trans rfl; have hfz11_0 := q11 BK103.out 0; have hfz11_1 := q11 BK103.out 1; have hfz11_2 := q11 BK103.out 2; have hcz12_0 : w9.cell? ⟨gb104, 0, none⟩ = some (.int .i64 0) := (q4 BK104.out 0).trans rfl; have hcz12_1 : w9.cell? ⟨gb104, 1, none⟩ = some (.string (⟨#[]⟩ : ByteArray)) := (q4 BK104.out 1).trans rfl; have hfz12_0 := q11 BK104.out 0; have hfz12_1 := q11 BK104.out 1))
    refine bodyPost_ret (results_cell_row rfl _ _ gb104 103 #[.int .i64 a0_0, .string (⟨#[]⟩ : ByteArray)] (0, 0) _ rfl (by (with_reducible repeat (first | refine q18 ?_ _ | refine q22 ?_ | refine q19 ?_ _)); refine blk_put (cs := #[.int .i64 a0_0, .string (⟨#[]⟩ : ByteArray)]) ?_ 1 _ rfl; (with_reducible repeat (first | refine q18 ?_ _ | refine q22 ?_ | refine q19 ?_ _)); refine blk_put (cs := #[.int .i64 0, .string (⟨#[]⟩ : ByteArray)]) ?_ 0 _ rfl; (with_reducible repeat (first | refine q18 ?_ _ | refine q22 ?_ | refine q19 ?_ _)); exact BK104.out) Try.underlying103 rfl (by kernel_rfl)) rfl ?_; exact ⟨by first | rfl | (simp [errW_none, errW_some] <;> rfl) | (simp [*, errW_none, errW_some] <;> rfl), by repeat (first | (with_reducible first | exact HB.out | apply q9 | apply q5 | apply q10 | refine q15 ?_ GE103.out | refine q15 ?_ GE104.out) | exact HB.out)⟩
section
attribute [local go_sem] Oper.semAt_some
structure KeepC (n₀ m : Nat) (W W' : World) : Prop where
  below : Below n₀ W W'
  cells : ∀ k cs t fr, m ≤ k → W.heap[k]? = some (.cells cs t fr) → W'.heap[k]? = some (.cells cs t fr)
theorem KeepC.trans {n₀ m : Nat} {A B C : World} (h : KeepC n₀ m A B) (k : KeepC n₀ m B C) : KeepC n₀ m A C :=
  ⟨h.below.trans k.below, fun i cs t fr hi hc => k.cells i cs t fr hi (h.cells i cs t fr hi hc)⟩
theorem KeepC.refl (n₀ m : Nat) (W : World) : KeepC n₀ m W W := ⟨Below.refl _ _, fun _ _ _ _ _ h => h⟩
theorem KeepC.ofBelow {n₀ m : Nat} {W W' : World} (h : Below W.heap.size W W') (hn : n₀ ≤ W.heap.size) : KeepC n₀ m W W' :=
  ⟨h.mono hn, fun k cs t fr _ hc => (h.block k (Array.getElem?_eq_some_iff.1 hc).1).trans hc⟩
theorem KeepC.put {n₀ m : Nat} (W : World) (l : Nat) (o o' : Obj) (hl : n₀ ≤ l) (h : W.heap[l]? = some o) (hc : o.isCells = false) : KeepC n₀ m W (W.putObj l o') :=
  ⟨(Below.refl n₀ W).grown (grownBy_putObj' W l o') (by have := (Array.getElem?_eq_some_iff.1 h).1; omega) (fun k e => by cases e; omega), fun k cs t fr _ hk => by
    by_cases e : k = l
    · subst e; rw [h] at hk; cases hk; simp [Obj.isCells] at hc
    · exact (World.putObj_heap_other e).trans hk⟩
def flat : List S42 → List S42
  | [] => []
  | x :: r => x :: (flat x.f2 ++ flat r)
  termination_by l => SizeOf.sizeOf l
  decreasing_by all_goals (cases x; simp; omega)
theorem flat_nil : flat [] = [] := by rw [flat]
theorem flat_cons (x : S42) (r : List S42) : flat (x :: r) = x :: (flat x.f2 ++ flat r) := by rw [flat]
theorem flat_append (a b : List S42) : flat (a ++ b) = flat a ++ flat b := by
  induction a with
  | nil => simp [flat_nil]
  | cons x r ih => simp [flat_cons, ih]
structure Yd (w0 : World) (L : List S42) where
  x : S42
  hm : x ∈ L
  A : Option Addr
  c : Nat
  hc : x.f2.length ≤ c
  hr : Kd.C k42 w0 A x.f2.length x.f2
def Yd.enc {w0 : World} {L : List S42} (y : Yd w0 L) : Array Value := #[.agg #[.int .i64 y.x.f0, .string y.x.f1, .slice y.A y.x.f2.length y.c]]
theorem sizeOf_kids (l : List S42) (i : Nat) (h : i < l.length) : SizeOf.sizeOf (l[i]).f2 < SizeOf.sizeOf l := by
  have h1 := List.sizeOf_lt_of_mem (List.getElem_mem h)
  have h2 : SizeOf.sizeOf (l[i]).f2 < SizeOf.sizeOf l[i] := by cases l[i]; simp; omega
  omega
theorem flat_take_succ (l : List S42) (i : Nat) (h : i < l.length) : flat (l.take (i + 1)) = flat (l.take i) ++ (l[i] :: flat (l[i]).f2) := by
  rw [List.take_succ_eq_append_getElem h, flat_append, flat_cons, flat_nil, List.append_nil]
theorem flat_take_le (l : List S42) (i : Nat) : (flat (l.take i)).length ≤ (flat l).length := by
  conv => rhs; rw [← List.take_append_drop i l, flat_append]
  simp
theorem flat_take_prefix (l : List S42) (i : Nat) : flat (l.take i) <+: flat l := by
  conv => rhs; rw [← List.take_append_drop i l, flat_append]
  exact List.prefix_append _ _
theorem round_any {m m' : Nat} {P : Program} {l : Nat} {f : FuncId} {tmps : Array Value} {assign body : Code} {w : World} {R : Ending → World → Prop}
    (h : RoundIn Fence.wide m P l f tmps assign body w R) : RoundIn Fence.wide m' P l f tmps assign body w R := ⟨h.1, fun c cs _ => h.2 c cs (room_wide _)⟩
theorem calls_any {m m' : Nat} {P : Program} {f : FuncId} {args : Array Value} {w : World} {R : Ending → World → Prop} (h : CallsIn Fence.wide m P f args w R) : CallsIn Fence.wide m' P f args w R :=
  ⟨h.1, fun cs _ => h.2 cs (room_wide _)⟩
theorem yield_any {m m' : Nat} {P : Program} {l : Nat} {args : Array Value} {W : World} {R : Ending → World → Prop} (h : YieldAt Fence.wide m P l args W R) : YieldAt Fence.wide m' P l args W R := by
  obtain ⟨fn, tmps, assign, body, hy, hR⟩ := h; exact ⟨fn, tmps, assign, body, hy, round_any hR⟩
set_option maxRecDepth 100000 in
set_option maxHeartbeats 4000000 in
theorem walk_all_in (w0 : World) (L : List S42) (lp m By Bw N : Nat) (J Jx : List (Yd w0 L) → World → Prop) (n : Nat) (B : Nat) (hJ : AbidesFrom B J)
    (hBy : m ≤ By) (hBw : m ≤ Bw)
    (hY : ∀ pre y W, J pre W → pre.length < N → YieldAt Fence.wide n Try.prog lp y.enc W fun e W' =>
      (e = .returned (.bool true) ∧ J (pre ++ [y]) W' ∧ KeepC w0.heap.size m W W') ∨ (e = .returned (.bool false) ∧ Jx (pre ++ [y]) W')) :
    ∀ (k : Nat) (A : Option Addr) (c : Nat) (l : List S42) (pre : List (Yd w0 L)) (W : World), SizeOf.sizeOf l ≤ k → (∀ t, t ∈ flat l → t ∈ L) → Kd.C k42 w0 A l.length l → l.length ≤ c → Below w0.heap.size w0 W → m ≤ W.heap.size →
      W.heap[By]? = some (.cells #[.func (.yield lp) #[] #[]] 78 (0, 0)) → W.heap[Bw]? = some (.cells #[.func (.func 146) #[] #[.pointer (some ⟨By, 0, none⟩), .pointer (some ⟨Bw, 0, none⟩)]] 64 (0, 0)) →
      J pre W → pre.length + (flat l).length ≤ N →
      CallsIn Fence.wide n Try.prog 146 #[.slice A l.length c, .pointer (some ⟨By, 0, none⟩), .pointer (some ⟨Bw, 0, none⟩)] W fun e W' =>
        (e = .returned (.bool true) ∧ ∃ ys : List (Yd w0 L), ys.map (·.x) = flat l ∧ J (pre ++ ys) W' ∧ KeepC w0.heap.size m W W') ∨
        (e = .returned (.bool false) ∧ ∃ ys : List (Yd w0 L), ys.map (·.x) <+: flat l ∧ Jx (pre ++ ys) W') := by
  intro k
  induction k with
  | zero => intro A c l pre W hk; cases l <;> simp at hk
  | succ k ih =>
    intro A c l pre W hk hL hC hc hB hm hy0 hw0 hj hN; have hu42 := Try.underlying42; have hmax := Kd.C_max hC; refine callsIn_of_wp Try.func146 rfl trivial ?_ rfl; simp only [Try.ntmps146, List.size_toArray, List.length_cons, List.length_nil, Nat.reduceAdd, Nat.reduceSub, Array.replicate_succ, Array.replicate_zero, List.push_toArray, List.append_toArray, List.nil_append, List.cons_append]
    gi_wp2
    gi_loopw [9] (fun i wr => ∃ (q : Nat) (ys : List (Yd w0 L)), i = .int .i64 q ∧ q ≤ l.length ∧ ys.map (·.x) = flat (l.take q) ∧ J (pre ++ ys) wr ∧ KeepC w0.heap.size m W wr) (fun i wr => l.length - (intOf i).toNat)
    case atStart => exact ⟨0, [], rfl, Nat.zero_le _, by simp [flat_nil], by simpa using hj, KeepC.refl _ _ _⟩
    case round =>
      obtain ⟨q, ys, rfl, hq, hys, hjs, hK⟩ := hrel
      have hlen : ys.length = (flat (l.take q)).length := by rw [← hys, List.length_map]
      have HY := Aside0.mk hys; have HJs := Aside0.mk hjs; have HKs := Aside0.mk hK; have HL := Aside0.mk hlen; have hBr : Below w0.heap.size w0 wr := hB.trans hK.below; have hszr : W.heap.size ≤ wr.heap.size := hK.below.size; clear hys hjs hlen
      by_cases hlt : q < l.length
      · obtain ⟨ad, A2, c2, rfl, hx0, hx1, hx2, hl2, hr2⟩ := at_T42 hC (q : Int) (by omega) (by omega)
        have hrd : rd_T42 l (q : Int) = l[q] := by simp [rd_T42, List.getD_eq_getElem?_getD, List.getElem?_eq_getElem hlt]
        rw [hrd] at hx0 hx1 hx2 hl2 hr2; rw [Int.toNat_natCast] at hx0 hx1 hx2; obtain ⟨x, hxx⟩ : ∃ x, l[q] = x := ⟨_, rfl⟩
        have hsz : SizeOf.sizeOf x.f2 ≤ k := by have := sizeOf_kids l q hlt; rw [hxx] at this; omega
        have hft := flat_take_succ l q hlt; have hfl := flat_take_le l (q + 1); rw [hxx] at hx0 hx1 hx2 hl2 hr2 hft
        have hN2 : (flat (l.take q)).length + (1 + (flat x.f2).length) ≤ (flat l).length := by rw [hft] at hfl; simp at hfl; omega
        have hxf : x ∈ flat l := (flat_take_prefix l (q + 1)).subset (by rw [hft]; simp)
        have hkf : ∀ t, t ∈ flat x.f2 → t ∈ L := fun t ht => hL t ((flat_take_prefix l (q + 1)).subset (by rw [hft]; simp [ht]))
        obtain ⟨y, hy⟩ : ∃ y : Yd w0 L, y = ⟨x, hL x hxf, A2, c2, hl2, hr2⟩ := ⟨_, rfl⟩
        have hyx : y.x = x := by rw [hy]
        replace hx0 := (hBr.cell (World.block_lt_of_cell? w0 _ hx0)).trans hx0; replace hx1 := (hBr.cell (World.block_lt_of_cell? w0 _ hx1)).trans hx1; replace hx2 := (hBr.cell (World.block_lt_of_cell? w0 _ hx2)).trans hx2; obtain ⟨W1, hW1⟩ : ∃ W1, wr.alloc (.cells #[.int .i64 x.f0, .string x.f1, .slice A2 x.f2.length c2] 42) = W1 := ⟨_, rfl⟩
        have hb1 : Below wr.heap.size wr W1 := by rw [← hW1]; exact (Below.refl _ wr).alloc (Nat.le_refl _) _
        have hk1 : KeepC w0.heap.size m wr W1 := KeepC.ofBelow hb1 (Nat.le_trans hB.size hszr)
        have ht1 : W1.heap[wr.heap.size]? = some (.cells #[.int .i64 x.f0, .string x.f1, .slice A2 x.f2.length c2] 42 (0, 0)) := by rw [← hW1]; exact World.alloc_heap_new wr _
        have hj1 : J (pre ++ ys) W1 := hJ _ wr W1 none HJs.out (by rw [← hW1]; exact World.grownBy_alloc wr _ none) (fun r e => by cases e); obtain ⟨fn, tmps, assign, body, hyr, hR⟩ := hY (pre ++ ys) y W1 hj1 (by have := HL.out; simp; omega)
        have henc : y.enc = #[.agg #[.int .i64 x.f0, .string x.f1, .slice A2 x.f2.length c2]] := by rw [hy]; rfl
        rw [henc] at hyr; have hby1 := hk1.cells By _ _ _ hBy (hK.cells By _ _ _ hBy hy0); have hcy : W1.cell? ⟨By, 0, none⟩ = some (.func (.yield lp) #[] #[]) := (q4 hby1 0).trans rfl
        have hdd : ∀ k : Nat, (Fence.wide.depth.isSome = true → 1 ≤ k) := fun k h => by simp [Fence.wide] at h
        have hR2 := hR.mono (R' := fun e W2 =>
            (e = .returned (.bool true) ∧ W2.cell? ⟨Bw, 0, none⟩ = some (.func (.func 146) #[] #[.pointer (some ⟨By, 0, none⟩), .pointer (some ⟨Bw, 0, none⟩)]) ∧
              W2.cell? ⟨wr.heap.size, 2, none⟩ = some (.slice A2 x.f2.length c2) ∧
              CallsIn Fence.wide n Try.prog 146 #[.slice A2 x.f2.length c2, .pointer (some ⟨By, 0, none⟩), .pointer (some ⟨Bw, 0, none⟩)] W2 fun e W3 =>
                (e = .returned (.bool true) ∧ ∃ zs : List (Yd w0 L), zs.map (·.x) = flat x.f2 ∧ J (pre ++ (ys ++ y :: zs)) W3 ∧ KeepC w0.heap.size m W W3) ∨
                (e = .returned (.bool false) ∧ ∃ zs : List (Yd w0 L), zs.map (·.x) <+: flat x.f2 ∧ Jx (pre ++ (ys ++ y :: zs)) W3)) ∨
            (e = .returned (.bool false) ∧ Jx (pre ++ (ys ++ [y])) W2)) (fun e W2 h => by
          rcases h with ⟨he, hj2, hk2⟩ | ⟨he, hj2⟩
          · refine .inl ⟨he, ?_, ?_, ?_⟩
            · exact (q4 (hk2.cells Bw _ _ _ hBw (hk1.cells Bw _ _ _ hBw (hK.cells Bw _ _ _ hBw hw0))) 0).trans rfl
            · exact (q4 (hk2.cells wr.heap.size _ _ _ (Nat.le_trans hm hszr) ht1) 2).trans rfl
            · have hkk := (hK.trans hk1).trans hk2; refine (ih A2 c2 x.f2 (pre ++ ys ++ [y]) W2 hsz hkf hr2 hl2 (hB.trans hkk.below) (Nat.le_trans hm hkk.below.size) (hkk.cells By _ _ _ hBy hy0) (hkk.cells Bw _ _ _ hBw hw0) hj2 (by have := HL.out; simp; omega)).mono ?_; rintro e3 W3 (⟨he3, zs, hz, hj3, hk3⟩ | ⟨he3, zs, hz, hj3⟩)
              · exact .inl ⟨he3, zs, hz, by simpa [List.append_assoc] using hj3, hkk.trans hk3⟩
              · exact .inr ⟨he3, zs, hz, by simpa [List.append_assoc] using hj3⟩
          · exact .inr ⟨he, by simpa [List.append_assoc] using hj2⟩)
        have ht10 : W1.cell? ⟨wr.heap.size, 0, none⟩ = some (.int .i64 x.f0) := (q4 ht1 0).trans rfl; have ht11 : W1.cell? ⟨wr.heap.size, 1, none⟩ = some (.string x.f1) := (q4 ht1 1).trans rfl; have ht12 : W1.cell? ⟨wr.heap.size, 2, none⟩ = some (.slice A2 x.f2.length c2) := (q4 ht1 2).trans rfl; have HX := Aside0.mk hxx; have HFT := Aside0.mk hft; have HT1 := Aside0.mk ht1; have HYX := Aside0.mk hyx; clear hxf hkf hL hxx hft ht1 hyx hrd hy henc hR hY ih hby1 hy0 hw0 hsz hfl hK hk1 HJs hj hj1
        have hlb : decide ((q : Int) < (l.length : Int)) = true := by simp; omega
        gi_wp2_with ((try refine ⟨hdd _, ?_⟩); refine (round_any hR2).mono ?_; clear hR2; rintro e W2 (⟨rfl, hcw2, hck2, hC2⟩ | ⟨rfl, hJ2⟩))
        · refine ⟨trivial, hdd _, (calls_any hC2).mono ?_⟩; clear hC2; rintro e W3 (⟨rfl, zs, hz, hJ3, hK3⟩ | ⟨rfl, zs, hz, hJ3⟩)
          · have HZ := Aside0.mk hz; clear hz
            gi_wp2
            go_roundw
            case rel => exact ⟨q + 1, ys ++ y :: zs, by go_num, by omega, by rw [HFT.out, List.map_append, List.map_cons, HYX.out, HY.out, HZ.out], hJ3, hK3⟩
            case measure => simp [intOf]; omega
          · have HZ := Aside0.mk hz; clear hz
            gi_wp2
            go_ret; refine .inr ⟨rfl, ys ++ y :: zs, ?_, hJ3⟩; rw [List.map_append, List.map_cons, HYX.out, HY.out]; refine List.IsPrefix.trans ?_ (flat_take_prefix l (q + 1)); rw [HFT.out]
            exact List.prefix_append_right_inj _ |>.2 ((List.prefix_cons_inj _).2 HZ.out)
        · refine ⟨fun _ h => (by cases h), ?_⟩
          gi_wp2
          go_ret; refine .inr ⟨rfl, ys ++ [y], ?_, hJ2⟩; rw [List.map_append, List.map_cons, HYX.out, HY.out]; refine List.IsPrefix.trans ?_ (flat_take_prefix l (q + 1)); rw [HFT.out]
          exact List.prefix_append_right_inj _ |>.2 ((List.prefix_cons_inj _).2 (List.nil_prefix))
      · obtain rfl : q = l.length := by omega
        have hlb : decide ((l.length : Int) < (l.length : Int)) = false := by simp
        gi_wp2
        go_ret; exact .inl ⟨rfl, ys, by rw [HY.out, List.take_length], HJs.out, HKs.out⟩
set_option maxHeartbeats 2000000 in
theorem all_in (n : Nat) (A : Option Addr) (m c : Nat) (w : World) :
    CallsIn Fence.wide n Try.prog 108 #[.slice A m c] w fun e w' => e = .returned (.func (.func 145) #[] #[.pointer (some ⟨w.heap.size, 0, none⟩)]) ∧ w' = w.alloc (.cells #[.slice A m c] 22) := by
  refine callsIn_of_wp Try.func108 rfl trivial ?_ rfl; simp only [Try.ntmps108, List.size_toArray, List.length_cons, List.length_nil, Nat.reduceAdd, Nat.reduceSub, Array.replicate_succ, Array.replicate_zero, List.push_toArray, List.append_toArray, List.nil_append, List.cons_append]
  gi_wp2
  go_ret; exact ⟨rfl, rfl⟩
set_option maxHeartbeats 2000000 in
theorem all_stops (n : Nat) (w0 w : World) (hB : Below w0.heap.size w0 w) (Bl : Nat) (A : Option Addr) (c : Nat) (l : List S42) (hC : Kd.C k42 w0 A l.length l) (hc : l.length ≤ c)
    (hl : w.cell? ⟨Bl, 0, none⟩ = some (.slice A l.length c)) :
    SeqStopsK Fence.wide n Try.prog 145 #[.pointer (some ⟨Bl, 0, none⟩)] (Yd.enc (w0 := w0) (L := flat l)) (KeepC w0.heap.size w.heap.size) (fun ys => ys.map (·.x) = flat l) (fun pre => pre.map (·.x) <+: flat l) (flat l).length w := by
  intro lp J Jx W hW hJ hJx hY h0; have hlt : Bl < w.heap.size := World.block_lt_of_cell? w ⟨Bl, 0, none⟩ hl; have hlW : W.cell? ⟨Bl, 0, none⟩ = some (.slice A l.length c) := (hW.cell (p := ⟨Bl, 0, none⟩) hlt).trans hl; obtain ⟨W2, hW2⟩ : ∃ W2, (W.alloc (.cells #[.func (.yield lp) #[] #[]] 78)).alloc (.cells #[.func (.func 146) #[] #[.pointer (some ⟨W.heap.size, 0, none⟩), .pointer (some ⟨W.heap.size + 1, 0, none⟩)]] 64) = W2 := ⟨_, rfl⟩
  have hb2 : Below W.heap.size W W2 := by rw [← hW2]; exact ((Below.refl _ W).alloc (Nat.le_refl _) _).alloc (by simp) _
  have hy2 : W2.heap[W.heap.size]? = some (.cells #[.func (.yield lp) #[] #[]] 78 (0, 0)) := by
    rw [← hW2]; exact (Below.heap_alloc _ _ _ (by simp)).trans (World.alloc_heap_new W _)
  have hw2 : W2.heap[W.heap.size + 1]? = some (.cells #[.func (.func 146) #[] #[.pointer (some ⟨W.heap.size, 0, none⟩), .pointer (some ⟨W.heap.size + 1, 0, none⟩)]] 64 (0, 0)) := by
    rw [← hW2]; have := World.alloc_heap_new (W.alloc (.cells #[.func (.yield lp) #[] #[]] 78)) (.cells #[.func (.func 146) #[] #[.pointer (some ⟨W.heap.size, 0, none⟩), .pointer (some ⟨W.heap.size + 1, 0, none⟩)]] 64)
    rwa [World.size_alloc] at this
  have hj2 : J [] W2 := hJ _ W W2 none h0 (by rw [← hW2]; exact (World.grownBy_alloc W _ none).trans (World.grownBy_alloc _ _ none)) (fun r e => by cases e); have hcall := walk_all_in w0 (flat l) lp w.heap.size W.heap.size (W.heap.size + 1) (flat l).length J Jx (n - 1) W.heap.size hJ hW.size (Nat.le_succ_of_le hW.size)
    (fun pre y W' hj hn => yield_any (hY pre y W' hj hn)) (SizeOf.sizeOf l) A c l [] W2 (Nat.le_refl _) (fun t ht => ht) hC hc (hB.trans ((hW.mono hB.size).trans (hb2.mono (Nat.le_trans hB.size hW.size)))) (Nat.le_trans hW.size hb2.size) hy2 hw2 hj2 (by simp)
  have hcy : W2.cell? ⟨W.heap.size, 0, none⟩ = some (.func (.yield lp) #[] #[]) := (q4 hy2 0).trans rfl; have hcw : W2.cell? ⟨W.heap.size + 1, 0, none⟩ = some (.func (.func 146) #[] #[.pointer (some ⟨W.heap.size, 0, none⟩), .pointer (some ⟨W.heap.size + 1, 0, none⟩)]) := (q4 hw2 0).trans rfl; have hcl : W2.cell? ⟨Bl, 0, none⟩ = some (.slice A l.length c) := (hb2.cell (p := ⟨Bl, 0, none⟩) (Nat.lt_of_lt_of_le hlt hW.size)).trans hlW; have HY2 := Aside0.mk hy2; have HW2 := Aside0.mk hw2; clear hy2 hw2 hY h0 hJ hJx hj2
  have hdd : ∀ k : Nat, (Fence.wide.depth.isSome = true → 1 ≤ k) := fun k h => by simp [Fence.wide] at h
  refine callsIn_of_wp Try.func145 rfl trivial ?_ rfl; simp only [Try.ntmps145, List.size_toArray, List.length_cons, List.length_nil, Nat.reduceAdd, Nat.reduceSub, Array.replicate_succ, Array.replicate_zero, List.push_toArray, List.append_toArray, List.nil_append, List.cons_append]
  gi_wp2_with (fail)
  refine ⟨trivial, hdd _, hcall.mono ?_⟩; clear hcall; rintro e W3 (⟨rfl, ys, hys, hJ3, _⟩ | ⟨rfl, ys, hys, hJ3⟩)
  · have HZ := Aside0.mk hys; clear hys
    gi_wp2
    go_end0
    exact ⟨⟨_, rfl⟩, .inl ⟨ys, HZ.out, by simpa using hJ3⟩⟩
  · have HZ := Aside0.mk hys; clear hys
    gi_wp2
    go_end0
    exact ⟨⟨_, rfl⟩, .inr ⟨ys, HZ.out, by simpa using hJ3⟩⟩
theorem enters145 : ∀ args w, (callFunc 145 args).run Try.prog w = .ok (.enter 145 args) w := enters_of Try.func145 (by kernel_rfl) rfl
theorem range_all {p : Tmp} {g : Operand} {assign body : Code} {Q : Exit → Act → World → Prop} {a : Act} {w : World}
    (w0 : World) (hB : Below w0.heap.size w0 w) (Bl : Nat) (A : Option Addr) (c : Nat) (l : List S42) (hC : Kd.C k42 w0 A l.length l) (hc : l.length ≤ c)
    (hl : w.cell? ⟨Bl, 0, none⟩ = some (.slice A l.length c)) (hg : a.eval g = .func (.func 145) #[] #[.pointer (some ⟨Bl, 0, none⟩)])
    (I : List (Yd w0 (flat l)) → World → Prop) (Ix : Code → List (Yd w0 (flat l)) → World → Prop) (hI : OwnFrom w.heap.size I) (hIx : ∀ c, OwnFrom w.heap.size (Ix c)) (h0 : I [] w) (a₁ : Yd w0 (flat l) → Act)
    (hassign : ∀ (lp : Nat) (x : Yd w0 (flat l)) (W : World) (K : Act → World → Prop), K (a₁ x) W →
      assign.wpIn (Fence.wide.inRound lp) 7 Try.prog (Exit.then K (fun _ _ _ => False)) { tmps := a.tmps.setIfInBounds p (.agg #[.int .i64 x.x.f0, .string x.x.f1, .slice x.A x.x.f2.length x.c]), defers := [] } W)
    (hbody : ∀ (lp : Nat) (pre : List (Yd w0 (flat l))) (x : Yd w0 (flat l)) (W : World), I pre W → pre.length < (flat l).length →
      body.wpIn (Fence.wide.inRound lp) 7 Try.prog (ownPostK (KeepC w0.heap.size w.heap.size) I Ix (pre ++ [x]) W) (a₁ x) W)
    (hdone : ∀ (D : Nat) (ys : List (Yd w0 (flat l))) (W : World), w.heap.size ≤ D → ys.map (·.x) = flat l → I ys W → W.heap[D]? = some (.deferred (some [])) →
      Q .normal { a with defers := { target := .collected D, args := #[] } :: a.defers } W)
    (hstop : ∀ (D : Nat) (c : Code) (pre : List (Yd w0 (flat l))) (W : World), w.heap.size ≤ D → pre.map (·.x) <+: flat l → Ix c pre W → W.heap[D]? = some (.deferred (some [])) →
      c.wp Try.prog Q { a with defers := { target := .collected D, args := #[] } :: a.defers } W) :
    (Code.rangeFunc g #[p] assign body).wp Try.prog Q a w :=
  wpIn_wide.1 (wpIn_rangeFunc_ownF (n := 9) rfl (by omega) hg trivial enters145 (all_stops 8 w0 w hB Bl A c l hC hc hl) KeepC.trans
    (fun W k o o' hk ho hc hw => KeepC.put W k o o' (Nat.le_trans hB.size hk) ho hc) (Below.refl _ _) (fun _ => rfl) I Ix hI hIx h0 a₁
    (fun lp x W K hK => by have := hassign lp x W K hK; simpa [Yd.enc] using this) hbody hdone (fun D c pre W hD hp hx hk => wpIn_wide.2 (hstop D c pre W hD hp hx hk)))
theorem range_allH {p : Tmp} {g : Operand} {assign body : Code} {Q : Exit → Act → World → Prop} {a : Act} {w : World}
    (w0 : World) (hB : Below w0.heap.size w0 w) (Bl : Nat) (A : Option Addr) (c : Nat) (l : List S42) (hC : Kd.C k42 w0 A l.length l) (hc : l.length ≤ c)
    (hl : w.cell? ⟨Bl, 0, none⟩ = some (.slice A l.length c)) (hg : a.eval g = .func (.func 145) #[] #[.pointer (some ⟨Bl, 0, none⟩)])
    (I : List (Yd w0 (flat l)) → World → Prop) (Ix : Code → List (Yd w0 (flat l)) → World → Prop) (hI : OwnFrom w.heap.size I) (hIx : ∀ c, OwnFrom w.heap.size (Ix c)) (h0 : I [] w)
    (Ax : Yd w0 (flat l) → Act → World → Prop) (hAx : ∀ x a', OwnFrom w.heap.size (fun (_ : Unit) W => Ax x a' W))
    (hassign : ∀ (lp : Nat) (pre : List (Yd w0 (flat l))) (x : Yd w0 (flat l)) (W : World) (K : Act → World → Prop), I pre W →
      (∀ a' W', KeepsFrom w.heap.size W W' → KeepC w0.heap.size w.heap.size W W' → I pre W' → Ax x a' W' → K a' W') →
      assign.wpIn (Fence.wide.inRound lp) 7 Try.prog (Exit.then K (fun _ _ _ => False)) { tmps := a.tmps.setIfInBounds p (.agg #[.int .i64 x.x.f0, .string x.x.f1, .slice x.A x.x.f2.length x.c]), defers := [] } W)
    (hbody : ∀ (lp : Nat) (pre : List (Yd w0 (flat l))) (x : Yd w0 (flat l)) (a' : Act) (W : World), I pre W → Ax x a' W → pre.length < (flat l).length →
      body.wpIn (Fence.wide.inRound lp) 7 Try.prog (ownPostG w.heap.size (KeepC w0.heap.size w.heap.size) I Ix (pre ++ [x]) W) a' W)
    (hdone : ∀ (D : Nat) (ys : List (Yd w0 (flat l))) (W : World), w.heap.size ≤ D → ys.map (·.x) = flat l → I ys W → W.heap[D]? = some (.deferred (some [])) →
      Q .normal { a with defers := { target := .collected D, args := #[] } :: a.defers } W)
    (hstop : ∀ (D : Nat) (c : Code) (pre : List (Yd w0 (flat l))) (W : World), w.heap.size ≤ D → pre.map (·.x) <+: flat l → Ix c pre W → W.heap[D]? = some (.deferred (some [])) →
      c.wp Try.prog Q { a with defers := { target := .collected D, args := #[] } :: a.defers } W) :
    (Code.rangeFunc g #[p] assign body).wp Try.prog Q a w :=
  wpIn_wide.1 (wpIn_rangeFunc_ownH (n := 9) rfl (by omega) hg trivial enters145 (all_stops 8 w0 w hB Bl A c l hC hc hl) KeepC.trans
    (fun W k o o' hk ho hc hw => KeepC.put W k o o' (Nat.le_trans hB.size hk) ho hc) (Below.refl _ _) (fun _ => rfl) I Ix hI hIx h0 Ax hAx
    (fun lp pre x W K hi hK => by have := hassign lp pre x W K hi hK; simpa [Yd.enc] using this) (fun lp pre x a' W _ _ hi hx hl => hbody lp pre x a' W hi hx hl) hdone (fun D c pre W hD hp hx hk => wpIn_wide.2 (hstop D c pre W hD hp hx hk)))
theorem keepsFrom_below {B : Nat} {W W' : World} (h : Below W.heap.size W W') : KeepsFrom B W W' :=
  ⟨h.size, fun k o _ hk _ => (h.block k (Array.getElem?_eq_some_iff.1 hk).1).trans hk⟩
theorem ownFrom_blk {β : Type} (B b : Nat) (cs : β → Array Value) (t : TypeId) : OwnFrom B (fun (s : β) W => W.heap[b]? = some (.cells (cs s) t (0, 0))) :=
  fun s W W' row hs hg hr => (grownBy_keeps_cells hg (fun r e => (hr r e).2) hs rfl).trans hs
theorem ownFrom_old {β : Type} (B b : Nat) (o : Obj) (hb : b < B) : OwnFrom B (fun (_ : β) W => W.heap[b]? = some o) :=
  fun s W W' row hs hg hr => (hg.block b (Array.getElem?_eq_some_iff.1 hs).1 (fun e => by have := (hr b e.symm).1; omega)).trans hs
theorem ownFrom_size {β : Type} (B n : Nat) : OwnFrom B (fun (_ : β) W => n ≤ W.heap.size) := fun s W W' row hs hg hr => Nat.le_trans hs hg.size
theorem ownFrom_pure {β : Type} (B : Nat) (P : β → Prop) : OwnFrom B (fun (s : β) (_ : World) => P s) := fun _ _ _ _ h _ _ => h
theorem setCell_blk {W : World} {b : Nat} {v u : Value} {t : TypeId} (h : W.heap[b]? = some (.cells #[v] t (0, 0))) : (W.setCell ⟨b, 0, none⟩ u).heap[b]? = some (.cells #[u] t (0, 0)) := by
  have := q21 h 0 u
  simpa using this
theorem KeepC.setCell {n₀ m : Nat} (W : World) (b i : Nat) (v : Value) (h1 : n₀ ≤ b) (h2 : b < m) : KeepC n₀ m W (W.setCell ⟨b, i, none⟩ v) :=
  ⟨(Below.refl n₀ W).setCell (p := ⟨b, i, none⟩) h1 v, fun k cs t fr hk hc => (Below.heap_setCell W ⟨b, i, none⟩ v k (by simp; omega)).trans hc⟩
theorem putObj_below {n : Nat} {w W : World} (h : Below n w W) (D : Nat) (o' : Obj) (hD : n ≤ D) (hsz : n ≤ W.heap.size) : Below n w (W.putObj D o') :=
  h.grown (grownBy_putObj' _ D _) hsz (fun k e => by cases e; omega)
def noPanic (Q : Exit → Act → World → Prop) : Exit → Act → World → Prop
  | .panic _, _, _ => False
  | e, a, w => Q e a w
theorem noPanic_le {Q : Exit → Act → World → Prop} : ∀ e a w, noPanic Q e a w → Q e a w
  | .panic _, _, _, h => h.elim
  | .normal, _, _, h => h
  | .ret, _, _, h => h
  | .exit _, _, _, h => h
  | .goto _, _, _, h => h
  | .outgrown, _, _, h => h
theorem calls_of_wp_marks {P : Program} {f : FuncId} {fn : Func} {c : Code} {args : Array Value} {w : World} {R : Ending → World → Prop}
    (hf : P.funcs[f]? = some fn) (hb : fn.body = some c)
    (h : c.wp P (noPanic (bodyPostM Fence.wide 9 P fn R)) { tmps := args ++ Array.replicate (fn.ntmps - args.size) undef, defers := [] } w) : Calls P f args w R :=
  callsIn_wide.1 (callsIn_of_wp_marks hf hb trivial (wpIn_wide.2 (Code.wp_mono noPanic_le h)))
theorem leave1 {P : Program} {fn : Func} {tmps : Array Value} {R : Ending → World → Prop} {D : Nat} {W : World} {v : Value} (hk : W.heap[D]? = some (.deferred (some [])))
    (hr : ∀ W', (results fn tmps).run P W' = .ok v W') (h : R (.returned v) (W.putObj D (.deferred none))) :
    LeavesInM Fence.wide 9 P fn tmps R [{ target := .collected D, args := #[] }] .returning W :=
  ⟨by simp, .inl ⟨_, _, rfl, run_takeDeferred hk, _, hr _, h⟩⟩
end
mutual
def term_depth.l0 : Nat → Int → List (S42) → Int → Int → Option (Int)
  | 0, _, _, _, _ => none
  | k + 1, x3, x6, x7, x8 => if x8 < x7 then (if 0 ≤ x8 then (if x8 < (x6.length : Int) then (if ((rd_T42 x6 x8).f0) = 4 then ((term_depth.f k ((rd_T42 x6 x8).f2)).bind fun t107 => (term_depth.l0 k (mx x3 (wrap64 (1 + t107))) x6 x7 (wrap64 (x8 + 1)))) else (if ((rd_T42 x6 x8).f0) = 8 then ((term_depth.f k ((rd_T42 x6 x8).f2)).bind fun t108 => (term_depth.l0 k (mx x3 (wrap64 (1 + t108))) x6 x7 (wrap64 (x8 + 1)))) else (if (((rd_T42 x6 x8).f2).length : Int) > 0 then ((term_depth.f k ((rd_T42 x6 x8).f2)).bind fun t109 => (term_depth.l0 k (mx x3 (wrap64 (1 + t109))) x6 x7 (wrap64 (x8 + 1)))) else (term_depth.l0 k x3 x6 x7 (wrap64 (x8 + 1)))))) else (none)) else (none)) else (some x3)
def term_depth.f : Nat → List (S42) → Option (Int)
  | 0, _ => none
  | k + 1, l0 => term_depth.l0 k 0 l0 (l0.length : Int) 0
end
set_option maxHeartbeats 8000000 in
set_option maxRecDepth 100000 in
theorem term_depth.calls (k : Nat) : ∀ (A0 : Option Addr) (c0 : Nat) (l0 : List (S42)) (r : Int) (w : World) (hr0 : Kd.C k42 w A0 l0.length l0) (hc0 : l0.length ≤ c0) (h : term_depth.f k l0 = some r),
    Calls Try.prog 109 #[.slice A0 l0.length c0] w fun e w' => e = .returned (.int .i64 r) ∧ Below w.heap.size w w' := by
  induction k using Nat.strongRecOn with
  | _ k ih =>
  intro A0 c0 l0 r w hr0 hc0 h
  cases k with
  | zero => exact absurd h (by simp [term_depth.f])
  | succ k =>
  simp only [term_depth.f] at h; have hu42 := Try.underlying42; have HR0 := Aside0.mk hr0; have HC0 := Aside0.mk hc0; clear hr0 hc0; have HB := Aside0.mk (Below.refl w.heap.size w); have H : (term_depth.l0 k 0 l0 (l0.length : Int) 0) = some r := h; clear h; have H' := Aside0.mk H; clear H
  go_enter Try.func109, Try.ntmps109
  go_wp2
  go_loopg [3, 8] k (fun kq v3 v8 w' => ∃ (x3_1 : Int) (x8_1 : Int), v3 = .int .i64 x3_1 ∧ v8 = .int .i64 x8_1 ∧ Aside0 (term_depth.l0 kq x3_1 l0 (l0.length : Int) x8_1 = some r) ∧ Aside0 (kq ≤ k) ∧ Aside0 (Below w.heap.size w w'))
  case atStart => exact ⟨(0), (0), (by first | rfl | (simp; done) | (simp [*]; done)), (by first | rfl | (simp; done) | (simp [*]; done)), H', ⟨Nat.le_refl _⟩, ⟨by repeat (first | (with_reducible first | exact HB.out | apply q9 | apply q5 | apply q10) | exact HB.out)⟩⟩
  case round =>
    clear H'
    try clear c1
    obtain ⟨x3_1, x8_1, rfl, rfl, HA, HK1, HB⟩ := hrel
    cases gk with
    | zero => exact absurd HA.out (by simp [term_depth.l0])
    | succ k1 =>
      have H := HA.out; clear HA; simp only [term_depth.l0] at H
      by_cases c2 : x8_1 < (l0.length : Int)
      · rw [if_pos c2] at H; have c2b0 : decide (x8_1 < (l0.length : Int)) = true := decide_eq_true c2; clear c2
        by_cases c3 : 0 ≤ x8_1
        · rw [if_pos c3] at H; have c3b0 : decide (0 ≤ x8_1) = true := decide_eq_true c3; clear c3
          by_cases c4 : x8_1 < (l0.length : Int)
          · rw [if_pos c4] at H; have c4b0 : decide (x8_1 < (l0.length : Int)) = true := decide_eq_true c4; clear c4
            by_cases c5 : ((rd_T42 l0 x8_1).f0) = 4
            · rw [if_pos c5] at H; have c5b0 : (((rd_T42 l0 x8_1).f0) == 4) = true := beq_iff_eq.mpr c5; have c5b1 : (((rd_T42 l0 x8_1).f0) != 4) = false := bne_eq_false_iff_eq.mpr c5; clear c5; replace H := Option.bind_eq_some_iff.mp H; obtain ⟨t107, A60, H⟩ := H; replace H : (term_depth.l0 k1 (mx x3_1 (wrap64 (1 + t107))) l0 (l0.length : Int) (wrap64 (x8_1 + 1))) = some r := H; have A6 := Aside0.mk A60; clear A60; obtain ⟨ji7, hji7⟩ : ∃ j_ : Int, (mx x3_1 (wrap64 (1 + t107))) = j_ := ⟨_, rfl⟩
              replace H : (term_depth.l0 k1 ji7 l0 (l0.length : Int) (wrap64 (x8_1 + 1))) = some r := by first | (rw [hji7] at H; exact H) | (simp only [hji7] at H ⊢; exact H)
              (try rw [hji7] at A6)
              have hji7_ : (if x3_1 < (wrap64 (1 + t107)) then (wrap64 (1 + t107)) else x3_1) = ji7 := hji7; have H' := Aside0.mk H; clear H; have p105 : 0 ≤ (x8_1 : Int) := of_decide_eq_true (by first | (with_reducible assumption) | assumption); have q105 : x8_1 < (l0.length : Int) := of_decide_eq_true (by first | (with_reducible assumption) | assumption); obtain ⟨ad105, A105_2, c105_2, e105, hx105_0, hx105_1, hx105_2, hl105_2, hi105_2⟩ := at_T42 HR0.out x8_1 p105 q105; cases e105; replace hx105_0 := (HB.out.cell (World.block_lt_of_cell? w _ hx105_0)).trans hx105_0; replace hx105_1 := (HB.out.cell (World.block_lt_of_cell? w _ hx105_1)).trans hx105_1; replace hx105_2 := (HB.out.cell (World.block_lt_of_cell? w _ hx105_2)).trans hx105_2; have HR105_2 := Aside0.mk hi105_2; have HC105_2 := Aside0.mk hl105_2; clear hi105_2 hl105_2; replace p105 := eq_true p105; replace q105 := eq_true q105
              go_wp2_with (first | ((with_reducible refine q20 (N := 5) rfl ?_); (try (refine gate_guard (by rfl) ?_; dsimp only)); refine q16 ?hg (N := 5) ?hd (cs := #[.int .i64 0, .string (⟨#[]⟩ : ByteArray), .slice none 0 0]) (t := 42) ?hr ?_; (case hd => rfl); (case hg => rfl); (case hr => first | (go_simp; done) | (go_simp; rfl)); intro gb106 hg w8 hbox hb; have n0_ := Aside0.mk (q12 (by repeat (first | (with_reducible first | exact HB.out | apply q9 | apply q5 | apply q10) | exact HB.out)) hb); have n1_ := Aside0.mk (hbox); have n2_ := Aside0.mk ((by rw [hg]; exact (q14 (by repeat (first | (with_reducible first | exact HB.out | apply q9 | apply q5 | apply q10) | exact HB.out))) : w.heap.size ≤ gb106)); have n3_ := Aside0.mk ((by rw [hg]; exact (q14 (by repeat (first | (with_reducible first | exact HB.out | apply q9 | apply q5 | apply q10) | exact HB.out))) : w.heap.size ≤ gb106)); clear HB; have HB := n0_; have BK106 := n1_; have GW106 := n2_; have GE106 := n3_; clear n0_ n1_ n2_ n3_; clear hb hbox hg; have hcz9_0 : w8.cell? ⟨gb106, 0, none⟩ = some (.int .i64 0) := (q4 BK106.out 0).trans rfl; have hcz9_1 : w8.cell? ⟨gb106, 1, none⟩ = some (.string (⟨#[]⟩ : ByteArray)) := (q4 BK106.out 1).trans rfl; have hcz9_2 : w8.cell? ⟨gb106, 2, none⟩ = some (.slice none 0 0) := (q4 BK106.out 2).trans rfl; have hfz9_0 := q11 BK106.out 0; have hfz9_1 := q11 BK106.out 1; have hfz9_2 := q11 BK106.out 2) | ((with_reducible refine gate_callee (f := 109) rfl ?_); refine goesL_ (some 29) rfl rfl Try.func109 (by kernel_rfl) rfl #[.slice A105_2 ((rd_T42 l0 x8_1).f2).length c105_2] rfl (by (try simp only [List.map_toArray, List.map_cons, List.map_nil]); first | done | rfl | (simp only [List.length_drop, List.length_take]; rfl)) ?_; (with_reducible refine (ih k1 (by have := HK1.out; omega) _ _ ((rd_T42 l0 x8_1).f2) t107 _ ?side1 ?side2 A6.out).mono ?_); (case side1 => exact Kd.C_below HR105_2.out (by repeat (first | (with_reducible first | exact HB.out | apply q9 | apply q5 | apply q10 | refine q15 ?_ GE106.out) | exact HB.out))); (case side2 => exact HC105_2.out); rintro e w10 ⟨rfl, hb⟩; refine ⟨_, rfl, ?_⟩; have n0_ := Aside0.mk (q13 (g := gb106) (o := .cells #[.int .i64 ((rd_T42 l0 x8_1).f0), .string ((rd_T42 l0 x8_1).f1), .slice A105_2 ((rd_T42 l0 x8_1).f2).length c105_2] 42 (0, 0)) (by (with_reducible repeat (first | refine q18 ?_ _ | refine q22 ?_ | refine q19 ?_ _)); refine blk_put (cs := #[.int .i64 ((rd_T42 l0 x8_1).f0), .string ((rd_T42 l0 x8_1).f1), .slice none 0 0]) ?_ 2 _ rfl; (with_reducible repeat (first | refine q18 ?_ _ | refine q22 ?_ | refine q19 ?_ _)); refine blk_put (cs := #[.int .i64 ((rd_T42 l0 x8_1).f0), .string (⟨#[]⟩ : ByteArray), .slice none 0 0]) ?_ 1 _ rfl; (with_reducible repeat (first | refine q18 ?_ _ | refine q22 ?_ | refine q19 ?_ _)); refine blk_put (cs := #[.int .i64 0, .string (⟨#[]⟩ : ByteArray), .slice none 0 0]) ?_ 0 _ rfl; (with_reducible repeat (first | refine q18 ?_ _ | refine q22 ?_ | refine q19 ?_ _)); exact BK106.out) hb); have n1_ := Aside0.mk (q12 (by repeat (first | (with_reducible first | exact HB.out | apply q9 | apply q5 | apply q10 | refine q15 ?_ GE106.out) | exact HB.out)) hb); clear BK106; clear HB; have BK106 := n0_; have HB := n1_; clear n0_ n1_; (try clear hb); (try clear hb2); (try clear hk); (try clear hi)))
              go_roundg k1
              case measure => have := HK1.out; omega
              case rel => exact ⟨(ji7), (wrap64 (x8_1 + 1)), (by first | rfl | (simp; done) | (simp only [← hji7] <;> (first | rfl | simp)) | (simp [*]; done)), (by first | rfl | (simp; done) | (simp [*]; done)), H', ⟨by have := HK1.out; omega⟩, ⟨by repeat (first | (with_reducible first | exact HB.out | apply q9 | apply q5 | apply q10 | refine q15 ?_ GE106.out) | exact HB.out)⟩⟩
            · rw [if_neg c5] at H; have c5b0 : (((rd_T42 l0 x8_1).f0) == 4) = false := beq_eq_false_iff_ne.mpr c5; have c5b1 : (((rd_T42 l0 x8_1).f0) != 4) = true := bne_iff_ne.mpr c5
              by_cases c11 : ((rd_T42 l0 x8_1).f0) = 8
              · rw [if_pos c11] at H; have c11b0 : (((rd_T42 l0 x8_1).f0) == 8) = true := beq_iff_eq.mpr c11; have c11b1 : (((rd_T42 l0 x8_1).f0) != 8) = false := bne_eq_false_iff_eq.mpr c11; clear c11; replace H := Option.bind_eq_some_iff.mp H; obtain ⟨t108, A120, H⟩ := H; replace H : (term_depth.l0 k1 (mx x3_1 (wrap64 (1 + t108))) l0 (l0.length : Int) (wrap64 (x8_1 + 1))) = some r := H; have A12 := Aside0.mk A120; clear A120; obtain ⟨ji13, hji13⟩ : ∃ j_ : Int, (mx x3_1 (wrap64 (1 + t108))) = j_ := ⟨_, rfl⟩
                replace H : (term_depth.l0 k1 ji13 l0 (l0.length : Int) (wrap64 (x8_1 + 1))) = some r := by first | (rw [hji13] at H; exact H) | (simp only [hji13] at H ⊢; exact H)
                (try rw [hji13] at A12)
                have hji13_ : (if x3_1 < (wrap64 (1 + t108)) then (wrap64 (1 + t108)) else x3_1) = ji13 := hji13; have H' := Aside0.mk H; clear H; have p105 : 0 ≤ (x8_1 : Int) := of_decide_eq_true (by first | (with_reducible assumption) | assumption); have q105 : x8_1 < (l0.length : Int) := of_decide_eq_true (by first | (with_reducible assumption) | assumption); obtain ⟨ad105, A105_2, c105_2, e105, hx105_0, hx105_1, hx105_2, hl105_2, hi105_2⟩ := at_T42 HR0.out x8_1 p105 q105; cases e105; replace hx105_0 := (HB.out.cell (World.block_lt_of_cell? w _ hx105_0)).trans hx105_0; replace hx105_1 := (HB.out.cell (World.block_lt_of_cell? w _ hx105_1)).trans hx105_1; replace hx105_2 := (HB.out.cell (World.block_lt_of_cell? w _ hx105_2)).trans hx105_2; have HR105_2 := Aside0.mk hi105_2; have HC105_2 := Aside0.mk hl105_2; clear hi105_2 hl105_2; replace p105 := eq_true p105; replace q105 := eq_true q105
                go_wp2_with (first | ((with_reducible refine q20 (N := 5) rfl ?_); (try (refine gate_guard (by rfl) ?_; dsimp only)); refine q16 ?hg (N := 5) ?hd (cs := #[.int .i64 0, .string (⟨#[]⟩ : ByteArray), .slice none 0 0]) (t := 42) ?hr ?_; (case hd => rfl); (case hg => rfl); (case hr => first | (go_simp; done) | (go_simp; rfl)); intro gb106 hg w14 hbox hb; have n0_ := Aside0.mk (q12 (by repeat (first | (with_reducible first | exact HB.out | apply q9 | apply q5 | apply q10) | exact HB.out)) hb); have n1_ := Aside0.mk (hbox); have n2_ := Aside0.mk ((by rw [hg]; exact (q14 (by repeat (first | (with_reducible first | exact HB.out | apply q9 | apply q5 | apply q10) | exact HB.out))) : w.heap.size ≤ gb106)); have n3_ := Aside0.mk ((by rw [hg]; exact (q14 (by repeat (first | (with_reducible first | exact HB.out | apply q9 | apply q5 | apply q10) | exact HB.out))) : w.heap.size ≤ gb106)); clear HB; have HB := n0_; have BK106 := n1_; have GW106 := n2_; have GE106 := n3_; clear n0_ n1_ n2_ n3_; clear hb hbox hg; have hcz15_0 : w14.cell? ⟨gb106, 0, none⟩ = some (.int .i64 0) := (q4 BK106.out 0).trans rfl; have hcz15_1 : w14.cell? ⟨gb106, 1, none⟩ = some (.string (⟨#[]⟩ : ByteArray)) := (q4 BK106.out 1).trans rfl; have hcz15_2 : w14.cell? ⟨gb106, 2, none⟩ = some (.slice none 0 0) := (q4 BK106.out 2).trans rfl; have hfz15_0 := q11 BK106.out 0; have hfz15_1 := q11 BK106.out 1; have hfz15_2 := q11 BK106.out 2) | ((with_reducible refine gate_callee (f := 109) rfl ?_); refine goesL_ (some 29) rfl rfl Try.func109 (by kernel_rfl) rfl #[.slice A105_2 ((rd_T42 l0 x8_1).f2).length c105_2] rfl (by (try simp only [List.map_toArray, List.map_cons, List.map_nil]); first | done | rfl | (simp only [List.length_drop, List.length_take]; rfl)) ?_; (with_reducible refine (ih k1 (by have := HK1.out; omega) _ _ ((rd_T42 l0 x8_1).f2) t108 _ ?side1 ?side2 A12.out).mono ?_); (case side1 => exact Kd.C_below HR105_2.out (by repeat (first | (with_reducible first | exact HB.out | apply q9 | apply q5 | apply q10 | refine q15 ?_ GE106.out) | exact HB.out))); (case side2 => exact HC105_2.out); rintro e w16 ⟨rfl, hb⟩; refine ⟨_, rfl, ?_⟩; have n0_ := Aside0.mk (q13 (g := gb106) (o := .cells #[.int .i64 ((rd_T42 l0 x8_1).f0), .string ((rd_T42 l0 x8_1).f1), .slice A105_2 ((rd_T42 l0 x8_1).f2).length c105_2] 42 (0, 0)) (by (with_reducible repeat (first | refine q18 ?_ _ | refine q22 ?_ | refine q19 ?_ _)); refine blk_put (cs := #[.int .i64 ((rd_T42 l0 x8_1).f0), .string ((rd_T42 l0 x8_1).f1), .slice none 0 0]) ?_ 2 _ rfl; (with_reducible repeat (first | refine q18 ?_ _ | refine q22 ?_ | refine q19 ?_ _)); refine blk_put (cs := #[.int .i64 ((rd_T42 l0 x8_1).f0), .string (⟨#[]⟩ : ByteArray), .slice none 0 0]) ?_ 1 _ rfl; (with_reducible repeat (first | refine q18 ?_ _ | refine q22 ?_ | refine q19 ?_ _)); refine blk_put (cs := #[.int .i64 0, .string (⟨#[]⟩ : ByteArray), .slice none 0 0]) ?_ 0 _ rfl; (with_reducible repeat (first | refine q18 ?_ _ | refine q22 ?_ | refine q19 ?_ _)); exact BK106.out) hb); have n1_ := Aside0.mk (q12 (by repeat (first | (with_reducible first | exact HB.out | apply q9 | apply q5 | apply q10 | refine q15 ?_ GE106.out) | exact HB.out)) hb); clear BK106; clear HB; have BK106 := n0_; have HB := n1_; clear n0_ n1_; (try clear hb); (try clear hb2); (try clear hk); (try clear hi)))
                go_roundg k1
                case measure => have := HK1.out; omega
                case rel => exact ⟨(ji13), (wrap64 (x8_1 + 1)), (by first | rfl | (simp; done) | (simp only [← hji13] <;> (first | rfl | simp)) | (simp [*]; done)), (by first | rfl | (simp; done) | (simp [*]; done)), H', ⟨by have := HK1.out; omega⟩, ⟨by repeat (first | (with_reducible first | exact HB.out | apply q9 | apply q5 | apply q10 | refine q15 ?_ GE106.out) | exact HB.out)⟩⟩
              · rw [if_neg c11] at H; have c11b0 : (((rd_T42 l0 x8_1).f0) == 8) = false := beq_eq_false_iff_ne.mpr c11; have c11b1 : (((rd_T42 l0 x8_1).f0) != 8) = true := bne_iff_ne.mpr c11
                by_cases c17 : (((rd_T42 l0 x8_1).f2).length : Int) > 0
                · rw [if_pos c17] at H; have c17b0 : decide (0 < (((rd_T42 l0 x8_1).f2).length : Int)) = true := decide_eq_true c17; have c17b1 : decide (0 < ((rd_T42 l0 x8_1).f2).length) = true := decide_eq_true (by omega); clear c17; replace H := Option.bind_eq_some_iff.mp H; obtain ⟨t109, A180, H⟩ := H; replace H : (term_depth.l0 k1 (mx x3_1 (wrap64 (1 + t109))) l0 (l0.length : Int) (wrap64 (x8_1 + 1))) = some r := H; have A18 := Aside0.mk A180; clear A180; obtain ⟨ji19, hji19⟩ : ∃ j_ : Int, (mx x3_1 (wrap64 (1 + t109))) = j_ := ⟨_, rfl⟩
                  replace H : (term_depth.l0 k1 ji19 l0 (l0.length : Int) (wrap64 (x8_1 + 1))) = some r := by first | (rw [hji19] at H; exact H) | (simp only [hji19] at H ⊢; exact H)
                  (try rw [hji19] at A18)
                  have hji19_ : (if x3_1 < (wrap64 (1 + t109)) then (wrap64 (1 + t109)) else x3_1) = ji19 := hji19; have H' := Aside0.mk H; clear H; have p105 : 0 ≤ (x8_1 : Int) := of_decide_eq_true (by first | (with_reducible assumption) | assumption); have q105 : x8_1 < (l0.length : Int) := of_decide_eq_true (by first | (with_reducible assumption) | assumption); obtain ⟨ad105, A105_2, c105_2, e105, hx105_0, hx105_1, hx105_2, hl105_2, hi105_2⟩ := at_T42 HR0.out x8_1 p105 q105; cases e105; replace hx105_0 := (HB.out.cell (World.block_lt_of_cell? w _ hx105_0)).trans hx105_0; replace hx105_1 := (HB.out.cell (World.block_lt_of_cell? w _ hx105_1)).trans hx105_1; replace hx105_2 := (HB.out.cell (World.block_lt_of_cell? w _ hx105_2)).trans hx105_2; have HR105_2 := Aside0.mk hi105_2; have HC105_2 := Aside0.mk hl105_2; clear hi105_2 hl105_2; replace p105 := eq_true p105; replace q105 := eq_true q105
                  go_wp2_with (first | ((with_reducible refine q20 (N := 5) rfl ?_); (try (refine gate_guard (by rfl) ?_; dsimp only)); refine q16 ?hg (N := 5) ?hd (cs := #[.int .i64 0, .string (⟨#[]⟩ : ByteArray), .slice none 0 0]) (t := 42) ?hr ?_; (case hd => rfl); (case hg => rfl); (case hr => first | (go_simp; done) | (go_simp; rfl)); intro gb106 hg w20 hbox hb; have n0_ := Aside0.mk (q12 (by repeat (first | (with_reducible first | exact HB.out | apply q9 | apply q5 | apply q10) | exact HB.out)) hb); have n1_ := Aside0.mk (hbox); have n2_ := Aside0.mk ((by rw [hg]; exact (q14 (by repeat (first | (with_reducible first | exact HB.out | apply q9 | apply q5 | apply q10) | exact HB.out))) : w.heap.size ≤ gb106)); have n3_ := Aside0.mk ((by rw [hg]; exact (q14 (by repeat (first | (with_reducible first | exact HB.out | apply q9 | apply q5 | apply q10) | exact HB.out))) : w.heap.size ≤ gb106)); clear HB; have HB := n0_; have BK106 := n1_; have GW106 := n2_; have GE106 := n3_; clear n0_ n1_ n2_ n3_; clear hb hbox hg; have hcz21_0 : w20.cell? ⟨gb106, 0, none⟩ = some (.int .i64 0) := (q4 BK106.out 0).trans rfl; have hcz21_1 : w20.cell? ⟨gb106, 1, none⟩ = some (.string (⟨#[]⟩ : ByteArray)) := (q4 BK106.out 1).trans rfl; have hcz21_2 : w20.cell? ⟨gb106, 2, none⟩ = some (.slice none 0 0) := (q4 BK106.out 2).trans rfl; have hfz21_0 := q11 BK106.out 0; have hfz21_1 := q11 BK106.out 1; have hfz21_2 := q11 BK106.out 2) | ((with_reducible refine gate_callee (f := 109) rfl ?_); refine goesL_ (some 29) rfl rfl Try.func109 (by kernel_rfl) rfl #[.slice A105_2 ((rd_T42 l0 x8_1).f2).length c105_2] rfl (by (try simp only [List.map_toArray, List.map_cons, List.map_nil]); first | done | rfl | (simp only [List.length_drop, List.length_take]; rfl)) ?_; (with_reducible refine (ih k1 (by have := HK1.out; omega) _ _ ((rd_T42 l0 x8_1).f2) t109 _ ?side1 ?side2 A18.out).mono ?_); (case side1 => exact Kd.C_below HR105_2.out (by repeat (first | (with_reducible first | exact HB.out | apply q9 | apply q5 | apply q10 | refine q15 ?_ GE106.out) | exact HB.out))); (case side2 => exact HC105_2.out); rintro e w22 ⟨rfl, hb⟩; refine ⟨_, rfl, ?_⟩; have n0_ := Aside0.mk (q13 (g := gb106) (o := .cells #[.int .i64 ((rd_T42 l0 x8_1).f0), .string ((rd_T42 l0 x8_1).f1), .slice A105_2 ((rd_T42 l0 x8_1).f2).length c105_2] 42 (0, 0)) (by (with_reducible repeat (first | refine q18 ?_ _ | refine q22 ?_ | refine q19 ?_ _)); refine blk_put (cs := #[.int .i64 ((rd_T42 l0 x8_1).f0), .string ((rd_T42 l0 x8_1).f1), .slice none 0 0]) ?_ 2 _ rfl; (with_reducible repeat (first | refine q18 ?_ _ | refine q22 ?_ | refine q19 ?_ _)); refine blk_put (cs := #[.int .i64 ((rd_T42 l0 x8_1).f0), .string (⟨#[]⟩ : ByteArray), .slice none 0 0]) ?_ 1 _ rfl; (with_reducible repeat (first | refine q18 ?_ _ | refine q22 ?_ | refine q19 ?_ _)); refine blk_put (cs := #[.int .i64 0, .string (⟨#[]⟩ : ByteArray), .slice none 0 0]) ?_ 0 _ rfl; (with_reducible repeat (first | refine q18 ?_ _ | refine q22 ?_ | refine q19 ?_ _)); exact BK106.out) hb); have n1_ := Aside0.mk (q12 (by repeat (first | (with_reducible first | exact HB.out | apply q9 | apply q5 | apply q10 | refine q15 ?_ GE106.out) | exact HB.out)) hb); clear BK106; clear HB; have BK106 := n0_; have HB := n1_; clear n0_ n1_; (try clear hb); (try clear hb2); (try clear hk); (try clear hi)))
                  go_roundg k1
                  case measure => have := HK1.out; omega
                  case rel => exact ⟨(ji19), (wrap64 (x8_1 + 1)), (by first | rfl | (simp; done) | (simp only [← hji19] <;> (first | rfl | simp)) | (simp [*]; done)), (by first | rfl | (simp; done) | (simp [*]; done)), H', ⟨by have := HK1.out; omega⟩, ⟨by repeat (first | (with_reducible first | exact HB.out | apply q9 | apply q5 | apply q10 | refine q15 ?_ GE106.out) | exact HB.out)⟩⟩
                · rw [if_neg c17] at H; have c17b0 : decide (0 < (((rd_T42 l0 x8_1).f2).length : Int)) = false := decide_eq_false c17; have c17b1 : decide (0 < ((rd_T42 l0 x8_1).f2).length) = false := decide_eq_false (by omega); clear c17; have H' := Aside0.mk H; clear H; have p105 : 0 ≤ (x8_1 : Int) := of_decide_eq_true (by first | (with_reducible assumption) | assumption); have q105 : x8_1 < (l0.length : Int) := of_decide_eq_true (by first | (with_reducible assumption) | assumption); obtain ⟨ad105, A105_2, c105_2, e105, hx105_0, hx105_1, hx105_2, hl105_2, hi105_2⟩ := at_T42 HR0.out x8_1 p105 q105; cases e105; replace hx105_0 := (HB.out.cell (World.block_lt_of_cell? w _ hx105_0)).trans hx105_0; replace hx105_1 := (HB.out.cell (World.block_lt_of_cell? w _ hx105_1)).trans hx105_1; replace hx105_2 := (HB.out.cell (World.block_lt_of_cell? w _ hx105_2)).trans hx105_2; have HR105_2 := Aside0.mk hi105_2; have HC105_2 := Aside0.mk hl105_2; clear hi105_2 hl105_2; replace p105 := eq_true p105; replace q105 := eq_true q105
                  go_wp2_with (first | ((with_reducible refine q20 (N := 5) rfl ?_); (try (refine gate_guard (by rfl) ?_; dsimp only)); refine q16 ?hg (N := 5) ?hd (cs := #[.int .i64 0, .string (⟨#[]⟩ : ByteArray), .slice none 0 0]) (t := 42) ?hr ?_; (case hd => rfl); (case hg => rfl); (case hr => first | (go_simp; done) | (go_simp; rfl)); intro gb106 hg w23 hbox hb; have n0_ := Aside0.mk (q12 (by repeat (first | (with_reducible first | exact HB.out | apply q9 | apply q5 | apply q10) | exact HB.out)) hb); have n1_ := Aside0.mk (hbox); have n2_ := Aside0.mk ((by rw [hg]; exact (q14 (by repeat (first | (with_reducible first | exact HB.out | apply q9 | apply q5 | apply q10) | exact HB.out))) : w.heap.size ≤ gb106)); have n3_ := Aside0.mk ((by rw [hg]; exact (q14 (by repeat (first | (with_reducible first | exact HB.out | apply q9 | apply q5 | apply q10) | exact HB.out))) : w.heap.size ≤ gb106)); clear HB; have HB := n0_; have BK106 := n1_; have GW106 := n2_; have GE106 := n3_; clear n0_ n1_ n2_ n3_; clear hb hbox hg; have hcz24_0 : w23.cell? ⟨gb106, 0, none⟩ = some (.int .i64 0) := (q4 BK106.out 0).trans rfl; have hcz24_1 : w23.cell? ⟨gb106, 1, none⟩ = some (.string (⟨#[]⟩ : ByteArray)) := (q4 BK106.out 1).trans rfl; have hcz24_2 : w23.cell? ⟨gb106, 2, none⟩ = some (.slice none 0 0) := (q4 BK106.out 2).trans rfl; have hfz24_0 := q11 BK106.out 0; have hfz24_1 := q11 BK106.out 1; have hfz24_2 := q11 BK106.out 2))
                  go_roundg k1
                  case measure => have := HK1.out; omega
                  case rel => exact ⟨(x3_1), (wrap64 (x8_1 + 1)), (by first | rfl | (simp; done) | (simp [*]; done)), (by first | rfl | (simp; done) | (simp [*]; done)), H', ⟨by have := HK1.out; omega⟩, ⟨by repeat (first | (with_reducible first | exact HB.out | apply q9 | apply q5 | apply q10 | refine q15 ?_ GE106.out) | exact HB.out)⟩⟩
          · rw [if_neg c4] at H; exact absurd H (by simp)
        · rw [if_neg c3] at H; exact absurd H (by simp)
      · rw [if_neg c2] at H; have c2b0 : decide (x8_1 < (l0.length : Int)) = false := decide_eq_false c2; clear c2; obtain rfl := Option.some.inj H
        go_wp2
        go_ret; exact ⟨by first | rfl | (simp [errW_none, errW_some] <;> rfl) | (simp [*, errW_none, errW_some] <;> rfl), by repeat (first | (with_reducible first | exact HB.out | apply q9 | apply q5 | apply q10) | exact HB.out)⟩
end Go.Proofs.Ytjhjhhibbmligaa.TE
