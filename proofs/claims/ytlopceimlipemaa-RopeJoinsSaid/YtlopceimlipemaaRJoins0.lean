/- RopeJoins: the row's contract. -/
import Derived.Test.YtlopceimlipemaaRJoins
import Derived.Test.YtlopceimlipemaaRRow
namespace Go.Proofs.Ytlopceimlipemaa.Rope
open Go.RowKit Go.Proofs.YtlopceimlipemaaW.PrintWords Go.Proofs.YtlopceimlipemaaW.PrintLast Go.Proofs.YtlopceimlipemaaW.PrintMore Go.Shelf
set_option linter.unusedVariables false
set_option linter.unusedSimpArgs false
set_option maxRecDepth 100000 in
set_option maxHeartbeats 4000000 in
theorem Joins0.calls (A1 : Option Addr) (c1 n1 : Nat) (A2 : Option Addr) (c2 n2 : Nat) (A3 : Option Addr) (c3 n3 : Nat) (at_ from_ to_ : Int) (w : World) (hn : 300 < n1 ∨ 300 < n2 ∨ 300 < n3) :
    Calls Try.prog 5 #[.slice A1 n1 c1, .slice A2 n2 c2, .slice A3 n3 c3, .int .u16 at_, .int .u16 from_, .int .u16 to_] w fun e w' => e = .returned (.bool true) ∧ Below w.heap.size w w' := by
  by_cases h1 : 300 < n1
  · have d1 : decide ((300 : Int) < (n1 : Int)) = true := by simp; omega
    have d1' : decide (300 < n1) = true := by simp; omega
    clear hn
    go_enter Try.func5, Try.ntmps5
    go_wp2_with fail
    refine (awake.calls _).mono ?_
    rintro e w1 ⟨rfl, hb⟩
    have HB := Aside0.mk hb
    clear hb
    go_wp2_with fail
    go_ret
    exact ⟨rfl, HB.out⟩
  · have d1 : decide ((300 : Int) < (n1 : Int)) = false := by simp; omega
    have d1' : decide (300 < n1) = false := by simp; omega
    by_cases h2 : 300 < n2
    · have d2 : decide ((300 : Int) < (n2 : Int)) = true := by simp; omega
      have d2' : decide (300 < n2) = true := by simp; omega
      clear hn
      go_enter Try.func5, Try.ntmps5
      go_wp2_with fail
      refine (awake.calls _).mono ?_
      rintro e w1 ⟨rfl, hb⟩
      have HB := Aside0.mk hb
      clear hb
      go_wp2_with fail
      go_ret
      exact ⟨rfl, HB.out⟩
    · have d2 : decide ((300 : Int) < (n2 : Int)) = false := by simp; omega
      have d2' : decide (300 < n2) = false := by simp; omega
      have d3 : decide ((300 : Int) < (n3 : Int)) = true := by simp; omega
      have d3' : decide (300 < n3) = true := by simp; omega
      clear hn
      go_enter Try.func5, Try.ntmps5
      go_wp2_with fail
      refine (awake.calls _).mono ?_
      rintro e w1 ⟨rfl, hb⟩
      have HB := Aside0.mk hb
      clear hb
      go_wp2_with fail
      go_ret
      exact ⟨rfl, HB.out⟩
theorem Joins.row (A1 : Option Addr) (c1 : Nat) (l : List Int) (A2 : Option Addr) (c2 : Nat) (m : List Int) (A3 : Option Addr) (c3 : Nat) (k : List Int) (at_ from_ to_ : Int) (w : World)
    (hC1 : D_int.C w A1 l.length l) (hc1 : l.length ≤ c1) (_ : l.length * 8 ≤ 140737488351232) (hC2 : D_int.C w A2 m.length m) (hc2 : m.length ≤ c2) (_ : m.length * 8 ≤ 140737488351232) (hC3 : D_int.C w A3 k.length k) (hc3 : k.length ≤ c3) (_ : k.length * 8 ≤ 140737488351232)
    (ha : (Lit.int .u16 at_).wf = true) (hf : (Lit.int .u16 from_).wf = true) (ht : (Lit.int .u16 to_).wf = true) :
    Calls Try.prog 5 #[.slice A1 l.length c1, .slice A2 m.length c2, .slice A3 k.length c3, .int .u16 at_, .int .u16 from_, .int .u16 to_] w fun e w' => e = .returned (.bool true) ∧ Below w.heap.size w w' := by
  by_cases h : l.length ≤ 300 ∧ m.length ≤ 300 ∧ k.length ≤ 300
  · exact Joins1.calls A1 c1 _ l A2 c2 _ m A3 c3 _ k at_ from_ to_ w hC1 rfl hc1 hC2 rfl hc2 hC3 rfl hc3 h.1 h.2.1 h.2.2 (u16_bounds ha).1 (u16_bounds ha).2 (u16_bounds hf).1 (u16_bounds hf).2 (u16_bounds ht).1 (u16_bounds ht).2
  · exact Joins0.calls A1 c1 _ A2 c2 _ A3 c3 _ at_ from_ to_ w (by omega)

end Go.Proofs.Ytlopceimlipemaa.Rope
