/- Part of the walk: lemmas and printed functions that the claim uses (wip/tools/trim.py). -/
import Derived.Test.YtnffhiiihegjbaaDMDx0
namespace Go.Proofs.Ytnffhiiihegjbaa.MD
open Go.RowKit Go.Proofs.YtnffhiiihegjbaaW.PrintWords Go.Proofs.YtnffhiiihegjbaaW.PrintLast Go.Proofs.YtnffhiiihegjbaaW.PrintMore
attribute [local go_sem] max2_int min2_int max_two min_two max_three min_three max_four min_four
set_option linter.unusedVariables false
set_option linter.unusedSimpArgs false
def chiasmusref09_is.f (a0_0 : Int) (a0_1 : ByteArray) (l0_2 : List (S44)) (a1 : ByteArray) : Option (Bool) := if a0_0 = 1 then (some (a0_1.toList == a1.toList)) else (some false)
set_option maxHeartbeats 8000000 in
set_option maxRecDepth 100000 in
theorem chiasmusref09_is.calls (a0_0 : Int) (a0_1 : ByteArray) (A0_2 : Option Addr) (c0_2 : Nat) (l0_2 : List (S44)) (a1 : ByteArray) (r : Bool) (w : World) (hr0_2 : Kd.C k44 w A0_2 l0_2.length l0_2) (hc0_2 : l0_2.length ≤ c0_2) (h : chiasmusref09_is.f a0_0 a0_1 l0_2 a1 = some r) :
    Calls Try.prog 63 #[.agg #[.int .i64 a0_0, .string a0_1, .slice A0_2 l0_2.length c0_2], .string a1] w fun e w' => e = .returned (.bool r) ∧ Below w.heap.size w w' := by
  have hu44 := Try.underlying44; have HR0_2 := Aside0.mk hr0_2; have HC0_2 := Aside0.mk hc0_2; clear hr0_2 hc0_2; have HB := Aside0.mk (Below.refl w.heap.size w); have H : (if a0_0 = 1 then (some (a0_1.toList == a1.toList)) else (some false)) = some r := h; clear h
  by_cases c3 : a0_0 = 1
  · rw [if_pos c3] at H; have c3b0 : (a0_0 == 1) = true := beq_iff_eq.mpr c3; have c3b1 : (a0_0 != 1) = false := bne_eq_false_iff_eq.mpr c3; clear c3; obtain rfl := Option.some.inj H
    go_enter Try.func63, Try.ntmps63
    go_wp2_with (first | ((with_reducible refine q24 (N := 2) rfl ?_); refine q22 ?hg (N := 2) ?hd (cs := #[.int .i64 a0_0, .string a0_1, .slice A0_2 l0_2.length c0_2]) (t := 44) ?hr ?_; (case hd => rfl); (case hg => rfl); (case hr => (go_simp; done)); intro gb285 hg w4 hbox hb; have n0_ := Aside0.mk (q14 (by with_reducible exact HB.out) hb); have n1_ := Aside0.mk (hbox); have n2_ := Aside0.mk ((by rw [hg]; exact (q10 (by with_reducible exact HB.out)) : w.heap.size ≤ gb285)); have n3_ := Aside0.mk ((by rw [hg]; exact (q10 (by with_reducible exact HB.out)) : w.heap.size ≤ gb285)); clear HB; have HB := n0_; have BK285 := n1_; have GW285 := n2_; have GE285 := n3_; clear n0_ n1_ n2_ n3_; clear hb hbox hg; have hcz5_0 : w4.cell? ⟨gb285, 0, none⟩ = some (.int .i64 a0_0) := (q5 BK285.out 0).trans rfl; have hcz5_1 : w4.cell? ⟨gb285, 1, none⟩ = some (.string a0_1) := (q5 BK285.out 1).trans rfl; have hcz5_2 : w4.cell? ⟨gb285, 2, none⟩ = some (.slice A0_2 l0_2.length c0_2) := (q5 BK285.out 2).trans rfl; have hfz5_0 := q11 BK285.out 0; have hfz5_1 := q11 BK285.out 1; have hfz5_2 := q11 BK285.out 2))
    go_ret; exact ⟨by rfl, by with_reducible exact HB.out⟩
  · rw [if_neg c3] at H; have c3b0 : (a0_0 == 1) = false := beq_eq_false_iff_ne.mpr c3; have c3b1 : (a0_0 != 1) = true := bne_iff_ne.mpr c3; obtain rfl := Option.some.inj H
    go_enter Try.func63, Try.ntmps63
    go_wp2_with (first | ((with_reducible refine q24 (N := 2) rfl ?_); refine q22 ?hg (N := 2) ?hd (cs := #[.int .i64 a0_0, .string a0_1, .slice A0_2 l0_2.length c0_2]) (t := 44) ?hr ?_; (case hd => rfl); (case hg => rfl); (case hr => (go_simp; done)); intro gb285 hg w6 hbox hb; have n0_ := Aside0.mk (q14 (by with_reducible exact HB.out) hb); have n1_ := Aside0.mk (hbox); have n2_ := Aside0.mk ((by rw [hg]; exact (q10 (by with_reducible exact HB.out)) : w.heap.size ≤ gb285)); have n3_ := Aside0.mk ((by rw [hg]; exact (q10 (by with_reducible exact HB.out)) : w.heap.size ≤ gb285)); clear HB; have HB := n0_; have BK285 := n1_; have GW285 := n2_; have GE285 := n3_; clear n0_ n1_ n2_ n3_; clear hb hbox hg; have hcz7_0 : w6.cell? ⟨gb285, 0, none⟩ = some (.int .i64 a0_0) := (q5 BK285.out 0).trans rfl; have hcz7_1 : w6.cell? ⟨gb285, 1, none⟩ = some (.string a0_1) := (q5 BK285.out 1).trans rfl; have hcz7_2 : w6.cell? ⟨gb285, 2, none⟩ = some (.slice A0_2 l0_2.length c0_2) := (q5 BK285.out 2).trans rfl; have hfz7_0 := q11 BK285.out 0; have hfz7_1 := q11 BK285.out 1; have hfz7_2 := q11 BK285.out 2))
    go_ret; exact ⟨by rfl, by with_reducible exact HB.out⟩
end Go.Proofs.Ytnffhiiihegjbaa.MD
