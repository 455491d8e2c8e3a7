import Derived.Test.YtlopceimlipemaaROwn
import Derived.Lib.SliceRun
namespace Go.Proofs.Ytlopceimlipemaa.Rope
open Go.RowKit Go.Proofs.YtlopceimlipemaaW.PrintWords Go.Proofs.YtlopceimlipemaaW.PrintLast Go.Proofs.YtlopceimlipemaaW.PrintMore Go.Shelf
set_option linter.unusedVariables false
set_option linter.unusedSimpArgs false
set_option maxRecDepth 100000 in
set_option maxHeartbeats 4000000 in
theorem Clone_int.calls (A : Option Addr) (c : Nat) (l : List Int) (w : World) (hC : D_int.C w A l.length l) (h0 : 0 < l.length) (hc : l.length ≤ c) (hl : l.length * 8 ≤ 140737488351232) :
    Calls Try.prog 29 #[.slice A l.length c] w fun e w' => ∃ v, e = .returned v ∧ w'.ownsRow w.heap.size 3 1 v l.length (l.map (.int .i64)) ∧ Below w.heap.size w w' := by
  obtain ⟨i0, hi, hz0, hz1, hz2⟩ := info_parts info_int
  have hml : (140737488351232 : Nat) ≤ maxLen := by decide
  obtain ⟨ad, rfl, hcell⟩ := C_cells_int hC h0
  have hfm : l.flatMap K_int.enc = l.map (.int .i64 : Int → Value) := by
    clear hC h0 hc hl hcell
    induction l with
    | nil => rfl
    | cons x r ih => simp only [List.flatMap_cons, List.map_cons, ih]; rfl
  rw [hfm] at hcell
  have heq := fun (W : World) (a : Option Addr) (n c : Nat) => Lib.run_eql_slice_nil (P := Try.prog) W 22 3 a n c 0 0 Try.underlying22
  have hne : (decide ((some ad : Option Addr) = none)) = false := rfl
  have hb1 : Below w.heap.size w (w.alloc (.cells #[] 3)) := (Below.refl _ w).alloc (Nat.le_refl _) _
  have ho1 : (w.alloc (.cells #[] 3)).ownsRow w.heap.size 3 1 (.slice (some ⟨w.heap.size, 0, none⟩) 0 0) 0 [] := ⟨rfl, .inr ⟨_, 0, _, rfl, Nat.le_refl _, heap_new w _, Nat.le_refl _, Nat.zero_le _, rfl, rfl⟩⟩
  have HO := Aside0.mk ho1
  have HB := Aside0.mk hb1
  have HC := Aside0.mk hcell
  clear ho1 hb1 hcell hC hfm
  go_enter Try.func29, Try.ntmps29
  go_wp2_with (at_builtin; refine wpList_append_own _ rfl _ _ 22 rfl w.heap.size 3 i0 (.int .i64 0) 1 8 Try.underlying22 hi hz0 hz1 hz2 rfl (by decide) _ _ _ rfl HO.out ad l.length c (l.map (.int .i64)) rfl (by simp) (fun j u hj => pw_cell_below HB.out (HC.out j u hj)) (by simp [Value.oneCell']) (by omega) (by omega) (by simp) ?_; intro v' w1 hown' hgrow _)
  have hB2 := HB.out.grown hgrow (by simp) (fun k e => by have e2 : w.heap.size = k := by simpa [Act.eval, Value.ownBlock] using e
                                                          omega)
  simp only [Nat.zero_add, List.nil_append] at hown'
  have HO2 := Aside0.mk hown'
  have HB2 := Aside0.mk hB2
  clear hown' hgrow hB2
  go_ret
  exact ⟨_, rfl, HO2.out, HB2.out⟩

end Go.Proofs.Ytlopceimlipemaa.Rope
