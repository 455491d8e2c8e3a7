/- Part of the walk: lemmas and printed functions that the claim uses (wip/tools/trim.py). -/
import Derived.Test.YtnffhiiihegjbaaFMDx0
import Derived.Test.YtnffhiiihegjbaaFMDx4
import Derived.Test.YtnffhiiihegjbaaFMDx7
namespace Go.Proofs.Ytnffhiiihegjbaa.MD
open Go.RowKit Go.Proofs.YtnffhiiihegjbaaW.PrintWords Go.Proofs.YtnffhiiihegjbaaW.PrintLast Go.Proofs.YtnffhiiihegjbaaW.PrintMore
attribute [local go_sem] max2_int min2_int max_two min_two max_three min_three max_four min_four
set_option linter.unusedVariables false
set_option linter.unusedSimpArgs false
def chiasmusref01_Equal.f (k : Nat) (l0 : List (S44)) (l1 : List (S44)) : Option (Bool) := (chiasmusref01_Compare.f k l0 l1).bind fun t247 => (some (t247 == 0))
set_option maxHeartbeats 8000000 in
set_option maxRecDepth 100000 in
theorem chiasmusref01_Equal.calls (k : Nat) (A0 : Option Addr) (c0 : Nat) (l0 : List (S44)) (A1 : Option Addr) (c1 : Nat) (l1 : List (S44)) (r : Bool) (w : World) (hr0 : Kd.C k44 w A0 l0.length l0) (hc0 : l0.length ≤ c0) (hr1 : Kd.C k44 w A1 l1.length l1) (hc1 : l1.length ≤ c1) (h : chiasmusref01_Equal.f k l0 l1 = some r) :
    Calls Try.prog 14 #[.slice A0 l0.length c0, .slice A1 l1.length c1] w fun e w' => e = .returned (.bool r) ∧ Below w.heap.size w w' := by
  have HR0 := Aside0.mk hr0; have HC0 := Aside0.mk hc0; clear hr0 hc0; have HR1 := Aside0.mk hr1; have HC1 := Aside0.mk hc1; clear hr1 hc1; have HB := Aside0.mk (Below.refl w.heap.size w); have H : ((chiasmusref01_Compare.f k l0 l1).bind fun t247 => (some (t247 == 0))) = some r := h; clear h; replace H := Option.bind_eq_some_iff.mp H; obtain ⟨t247, A30, H⟩ := H; replace H : (some (t247 == 0)) = some r := H; have A3 := Aside0.mk A30; clear A30; obtain rfl := Option.some.inj H
  go_enter Try.func14, Try.ntmps14
  go_wp2_with (first | ((with_reducible refine q14 (f := 35) rfl ?_); refine goesL_ (some 7) rfl rfl Try.func35 (by kernel_rfl) rfl #[.slice A0 l0.length c0, .slice A1 l1.length c1] rfl (by (try simp only [List.map_toArray, List.map_cons, List.map_nil]); rfl) ?_; (with_reducible refine (chiasmusref01_Compare.calls k _ _ l0 _ _ l1 t247 _ ?side1 ?side2 ?side3 ?side4 A3.out).mono ?_); (case side1 => repeat (exact HR0.out)); (case side2 => exact HC0.out); (case side3 => repeat (exact HR1.out)); (case side4 => exact HC1.out); rintro e w4 ⟨rfl, hb⟩; refine ⟨_, rfl, ?_⟩; have n0_ := Aside0.mk (q10 (by with_reducible exact HB.out) hb); clear HB; have HB := n0_; clear n0_; (try clear hb); (try clear hb2); (try clear hk); (try clear hi)))
  go_ret; exact ⟨by rfl, by with_reducible exact HB.out⟩
def term_Value.f (k : Nat) (l0 : List (S44)) : Option (Int) := (term_check.f k l0 4).bind fun t248 => (some t248)
set_option maxHeartbeats 8000000 in
set_option maxRecDepth 100000 in
theorem term_Value.calls (k : Nat) (A0 : Option Addr) (c0 : Nat) (l0 : List (S44)) (r : Int) (w : World) (hr0 : Kd.C k44 w A0 l0.length l0) (hc0 : l0.length ≤ c0) (h : term_Value.f k l0 = some r) :
    Calls Try.prog 17 #[.slice A0 l0.length c0] w fun e w' => e = .returned (.int .i64 r) ∧ Below w.heap.size w w' := by
  have HR0 := Aside0.mk hr0; have HC0 := Aside0.mk hc0; clear hr0 hc0; have HB := Aside0.mk (Below.refl w.heap.size w); have H : ((term_check.f k l0 4).bind fun t248 => (some t248)) = some r := h; clear h; replace H := Option.bind_eq_some_iff.mp H; obtain ⟨t248, A20, H⟩ := H; replace H : (some t248) = some r := H; have A2 := Aside0.mk A20; clear A20; obtain rfl := Option.some.inj H
  go_enter Try.func17, Try.ntmps17
  go_wp2_with (first | ((with_reducible refine q14 (f := 39) rfl ?_); refine goesL_ (some 4) rfl rfl Try.func39 (by kernel_rfl) rfl #[.slice A0 l0.length c0, .int .i64 4] rfl (by (try simp only [List.map_toArray, List.map_cons, List.map_nil]); rfl) ?_; (with_reducible refine (term_check.calls k _ _ l0 4 t248 _ ?side1 ?side2 A2.out).mono ?_); (case side1 => repeat (exact HR0.out)); (case side2 => exact HC0.out); rintro e w3 ⟨rfl, hb⟩; refine ⟨_, rfl, ?_⟩; have n0_ := Aside0.mk (q10 (by with_reducible exact HB.out) hb); clear HB; have HB := n0_; clear n0_; (try clear hb); (try clear hb2); (try clear hk); (try clear hi)))
  go_ret; exact ⟨by rfl, by with_reducible exact HB.out⟩
def meta_isChar.f (a0_0 : Int) (a0_1 : ByteArray) (l0_2 : List (S44)) (a1 : ByteArray) : Option (Bool) := if a0_0 = 1 then (some (a0_1.toList == a1.toList)) else (some false)
set_option maxHeartbeats 8000000 in
set_option maxRecDepth 100000 in
theorem meta_isChar.calls (a0_0 : Int) (a0_1 : ByteArray) (A0_2 : Option Addr) (c0_2 : Nat) (l0_2 : List (S44)) (a1 : ByteArray) (r : Bool) (w : World) (hr0_2 : Kd.C k44 w A0_2 l0_2.length l0_2) (hc0_2 : l0_2.length ≤ c0_2) (h : meta_isChar.f a0_0 a0_1 l0_2 a1 = some r) :
    Calls Try.prog 61 #[.agg #[.int .i64 a0_0, .string a0_1, .slice A0_2 l0_2.length c0_2], .string a1] w fun e w' => e = .returned (.bool r) ∧ Below w.heap.size w w' := by
  have hu44 := Try.underlying44; have HR0_2 := Aside0.mk hr0_2; have HC0_2 := Aside0.mk hc0_2; clear hr0_2 hc0_2; have HB := Aside0.mk (Below.refl w.heap.size w); have H : (if a0_0 = 1 then (some (a0_1.toList == a1.toList)) else (some false)) = some r := h; clear h
  by_cases c3 : a0_0 = 1
  · rw [if_pos c3] at H; have c3b0 : (a0_0 == 1) = true := beq_iff_eq.mpr c3; have c3b1 : (a0_0 != 1) = false := bne_eq_false_iff_eq.mpr c3; clear c3; obtain rfl := Option.some.inj H
    go_enter Try.func61, Try.ntmps61
    go_wp2_with (first | ((with_reducible refine q21 (N := 2) rfl ?_); refine q22 ?hg (N := 2) ?hd (cs := #[.int .i64 a0_0, .string a0_1, .slice A0_2 l0_2.length c0_2]) (t := 44) ?hr ?_; (case hd => rfl); (case hg => rfl); (case hr => (go_simp; done)); intro gb249 hg w4 hbox hb; have n0_ := Aside0.mk (q10 (by with_reducible exact HB.out) hb); have n1_ := Aside0.mk (hbox); have n2_ := Aside0.mk ((by rw [hg]; exact (q3 (by with_reducible exact HB.out)) : w.heap.size ≤ gb249)); have n3_ := Aside0.mk ((by rw [hg]; exact (q3 (by with_reducible exact HB.out)) : w.heap.size ≤ gb249)); clear HB; have HB := n0_; have BK249 := n1_; have GW249 := n2_; have GE249 := n3_; clear n0_ n1_ n2_ n3_; clear hb hbox hg; have hcz5_0 : w4.cell? ⟨gb249, 0, none⟩ = some (.int .i64 a0_0) := (q5 BK249.out 0).trans rfl; have hcz5_1 : w4.cell? ⟨gb249, 1, none⟩ = some (.string a0_1) := (q5 BK249.out 1).trans rfl; have hcz5_2 : w4.cell? ⟨gb249, 2, none⟩ = some (.slice A0_2 l0_2.length c0_2) := (q5 BK249.out 2).trans rfl; have hfz5_0 := q11 BK249.out 0; have hfz5_1 := q11 BK249.out 1; have hfz5_2 := q11 BK249.out 2))
    go_ret; exact ⟨by rfl, by with_reducible exact HB.out⟩
  · rw [if_neg c3] at H; have c3b0 : (a0_0 == 1) = false := beq_eq_false_iff_ne.mpr c3; have c3b1 : (a0_0 != 1) = true := bne_iff_ne.mpr c3; obtain rfl := Option.some.inj H
    go_enter Try.func61, Try.ntmps61
    go_wp2_with (first | ((with_reducible refine q21 (N := 2) rfl ?_); refine q22 ?hg (N := 2) ?hd (cs := #[.int .i64 a0_0, .string a0_1, .slice A0_2 l0_2.length c0_2]) (t := 44) ?hr ?_; (case hd => rfl); (case hg => rfl); (case hr => (go_simp; done)); intro gb249 hg w6 hbox hb; have n0_ := Aside0.mk (q10 (by with_reducible exact HB.out) hb); have n1_ := Aside0.mk (hbox); have n2_ := Aside0.mk ((by rw [hg]; exact (q3 (by with_reducible exact HB.out)) : w.heap.size ≤ gb249)); have n3_ := Aside0.mk ((by rw [hg]; exact (q3 (by with_reducible exact HB.out)) : w.heap.size ≤ gb249)); clear HB; have HB := n0_; have BK249 := n1_; have GW249 := n2_; have GE249 := n3_; clear n0_ n1_ n2_ n3_; clear hb hbox hg; have hcz7_0 : w6.cell? ⟨gb249, 0, none⟩ = some (.int .i64 a0_0) := (q5 BK249.out 0).trans rfl; have hcz7_1 : w6.cell? ⟨gb249, 1, none⟩ = some (.string a0_1) := (q5 BK249.out 1).trans rfl; have hcz7_2 : w6.cell? ⟨gb249, 2, none⟩ = some (.slice A0_2 l0_2.length c0_2) := (q5 BK249.out 2).trans rfl; have hfz7_0 := q11 BK249.out 0; have hfz7_1 := q11 BK249.out 1; have hfz7_2 := q11 BK249.out 2))
    go_ret; exact ⟨by rfl, by with_reducible exact HB.out⟩
end Go.Proofs.Ytnffhiiihegjbaa.MD
