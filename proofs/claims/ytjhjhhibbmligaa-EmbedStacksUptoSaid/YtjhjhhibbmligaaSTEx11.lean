/- Part of the walk: lemmas and printed functions that the claim uses (wip/tools/trim.py). -/
import Derived.Test.YtjhjhhibbmligaaSTEx0
import Derived.Test.YtjhjhhibbmligaaSTEx1
import Derived.Test.YtjhjhhibbmligaaSTEx3
section
namespace Go.Proofs.Ytjhjhhibbmligaa.TE
open Go.RowKit Go.Proofs.YtjhjhhibbmligaaW.PrintWords Go.Proofs.YtjhjhhibbmligaaW.PrintLast Go.Proofs.YtjhjhhibbmligaaW.PrintMore
attribute [local go_sem] max2_int min2_int max_two min_two max_three min_three max_four min_four
set_option linter.unusedVariables false
set_option linter.unusedSimpArgs false
section
attribute [local go_sem] Oper.semAt_some
end
def term_IsVariable.f (a0_0 : Int) (a0_1 : ByteArray) (l0_2 : List (S42)) : Option (Bool) := if a0_0 ≥ 5 then (some (decide (a0_0 ≤ 7))) else (some false)
set_option maxHeartbeats 8000000 in
set_option maxRecDepth 100000 in
theorem term_IsVariable.calls (a0_0 : Int) (a0_1 : ByteArray) (A0_2 : Option Addr) (c0_2 : Nat) (l0_2 : List (S42)) (r : Bool) (w : World) (hr0_2 : Kd.C k42 w A0_2 l0_2.length l0_2) (hc0_2 : l0_2.length ≤ c0_2) (h : term_IsVariable.f a0_0 a0_1 l0_2 = some r) :
    Calls Try.prog 57 #[.agg #[.int .i64 a0_0, .string a0_1, .slice A0_2 l0_2.length c0_2]] w fun e w' => e = .returned (.bool r) ∧ Below w.heap.size w w' := by
  have hu42 := Try.underlying42; have HR0_2 := Aside0.mk hr0_2; have HC0_2 := Aside0.mk hc0_2; clear hr0_2 hc0_2; have HB := Aside0.mk (Below.refl w.heap.size w); have H : (if a0_0 ≥ 5 then (some (decide (a0_0 ≤ 7))) else (some false)) = some r := h; clear h
  by_cases c2 : a0_0 ≥ 5
  · rw [if_pos c2] at H; have c2b0 : decide (5 ≤ a0_0) = true := decide_eq_true c2; clear c2; obtain rfl := Option.some.inj H
    go_enter Try.func57, Try.ntmps57
    go_wp2_with (first | ((with_reducible refine q22 (N := 1) rfl ?_); refine q20 ?hg (N := 1) ?hd (cs := #[.int .i64 a0_0, .string a0_1, .slice A0_2 l0_2.length c0_2]) (t := 42) ?hr ?_; (case hd => rfl); (case hg => rfl); (case hr => first | (go_simp; done) | (go_simp; rfl)); intro gb344 hg w3 hbox hb; have n0_ := Aside0.mk (q12 (by repeat (first | (with_reducible first | exact HB.out | apply q9 | apply q5 | apply q10) | exact HB.out)) hb); have n1_ := Aside0.mk (hbox); have n2_ := Aside0.mk ((by rw [hg]; exact (q13 (by repeat (first | (with_reducible first | exact HB.out | apply q9 | apply q5 | apply q10) | exact HB.out))) : w.heap.size ≤ gb344)); have n3_ := Aside0.mk ((by rw [hg]; exact (q13 (by repeat (first | (with_reducible first | exact HB.out | apply q9 | apply q5 | apply q10) | exact HB.out))) : w.heap.size ≤ gb344)); clear HB; have HB := n0_; have BK344 := n1_; have GW344 := n2_; have GE344 := n3_; clear n0_ n1_ n2_ n3_; clear hb hbox hg; have hcz4_0 : w3.cell? ⟨gb344, 0, none⟩ = some (.int .i64 a0_0) := (q4 BK344.out 0).trans rfl; have hcz4_1 : w3.cell? ⟨gb344, 1, none⟩ = some (.string a0_1) := (q4 BK344.out 1).trans rfl; have hcz4_2 : w3.cell? ⟨gb344, 2, none⟩ = some (.slice A0_2 l0_2.length c0_2) := (q4 BK344.out 2).trans rfl; have hfz4_0 := q11 BK344.out 0; have hfz4_1 := q11 BK344.out 1; have hfz4_2 := q11 BK344.out 2))
    go_ret; exact ⟨by first | rfl | (simp [errW_none, errW_some] <;> rfl) | (simp [*, errW_none, errW_some] <;> rfl), by repeat (first | (with_reducible first | exact HB.out | apply q9 | apply q5 | apply q10 | refine q16 ?_ GE344.out) | exact HB.out)⟩
  · rw [if_neg c2] at H; have c2b0 : decide (5 ≤ a0_0) = false := decide_eq_false c2; clear c2; obtain rfl := Option.some.inj H
    go_enter Try.func57, Try.ntmps57
    go_wp2_with (first | ((with_reducible refine q22 (N := 1) rfl ?_); refine q20 ?hg (N := 1) ?hd (cs := #[.int .i64 a0_0, .string a0_1, .slice A0_2 l0_2.length c0_2]) (t := 42) ?hr ?_; (case hd => rfl); (case hg => rfl); (case hr => first | (go_simp; done) | (go_simp; rfl)); intro gb344 hg w5 hbox hb; have n0_ := Aside0.mk (q12 (by repeat (first | (with_reducible first | exact HB.out | apply q9 | apply q5 | apply q10) | exact HB.out)) hb); have n1_ := Aside0.mk (hbox); have n2_ := Aside0.mk ((by rw [hg]; exact (q13 (by repeat (first | (with_reducible first | exact HB.out | apply q9 | apply q5 | apply q10) | exact HB.out))) : w.heap.size ≤ gb344)); have n3_ := Aside0.mk ((by rw [hg]; exact (q13 (by repeat (first | (with_reducible first | exact HB.out | apply q9 | apply q5 | apply q10) | exact HB.out))) : w.heap.size ≤ gb344)); clear HB; have HB := n0_; have BK344 := n1_; have GW344 := n2_; have GE344 := n3_; clear n0_ n1_ n2_ n3_; clear hb hbox hg; have hcz6_0 : w5.cell? ⟨gb344, 0, none⟩ = some (.int .i64 a0_0) := (q4 BK344.out 0).trans rfl; have hcz6_1 : w5.cell? ⟨gb344, 1, none⟩ = some (.string a0_1) := (q4 BK344.out 1).trans rfl; have hcz6_2 : w5.cell? ⟨gb344, 2, none⟩ = some (.slice A0_2 l0_2.length c0_2) := (q4 BK344.out 2).trans rfl; have hfz6_0 := q11 BK344.out 0; have hfz6_1 := q11 BK344.out 1; have hfz6_2 := q11 BK344.out 2))
    go_ret; exact ⟨by first | rfl | (simp [errW_none, errW_some] <;> rfl) | (simp [*, errW_none, errW_some] <;> rfl), by repeat (first | (with_reducible first | exact HB.out | apply q9 | apply q5 | apply q10 | refine q16 ?_ GE344.out) | exact HB.out)⟩
end Go.Proofs.Ytjhjhhibbmligaa.TE
end
section
namespace Go.Proofs.Ytjhjhhibbmligaa.TE
open Go.RowKit Go.Proofs.YtjhjhhibbmligaaW.PrintWords Go.Proofs.YtjhjhhibbmligaaW.PrintLast Go.Proofs.YtjhjhhibbmligaaW.PrintMore
attribute [local go_sem] max2_int min2_int max_two min_two max_three min_three max_four min_four
set_option linter.unusedVariables false
set_option linter.unusedSimpArgs false
end Go.Proofs.Ytjhjhhibbmligaa.TE
end
section
namespace Go.Proofs.Ytjhjhhibbmligaa.TE
open Go.RowKit Go.Proofs.YtjhjhhibbmligaaW.PrintWords Go.Proofs.YtjhjhhibbmligaaW.PrintLast Go.Proofs.YtjhjhhibbmligaaW.PrintMore
attribute [local go_sem] max2_int min2_int max_two min_two max_three min_three max_four min_four
set_option linter.unusedVariables false
set_option linter.unusedSimpArgs false
end Go.Proofs.Ytjhjhhibbmligaa.TE
end
section
namespace Go.Proofs.Ytjhjhhibbmligaa.TE
open Go.RowKit Go.Proofs.YtjhjhhibbmligaaW.PrintWords Go.Proofs.YtjhjhhibbmligaaW.PrintLast Go.Proofs.YtjhjhhibbmligaaW.PrintMore
attribute [local go_sem] max2_int min2_int max_two min_two max_three min_three max_four min_four
set_option linter.unusedVariables false
set_option linter.unusedSimpArgs false
end Go.Proofs.Ytjhjhhibbmligaa.TE
end
