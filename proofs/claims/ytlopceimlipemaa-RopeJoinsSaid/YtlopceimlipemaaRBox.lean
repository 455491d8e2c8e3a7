/- Variables' boxes at calls. -/
import Derived.Test.YtlopceimlipemaaRMore
namespace Go.Proofs.Ytlopceimlipemaa.Rope
open Go.RowKit Go.Proofs.YtlopceimlipemaaW.PrintWords Go.Proofs.YtlopceimlipemaaW.PrintLast Go.Proofs.YtlopceimlipemaaW.PrintMore
set_option linter.unusedVariables false
set_option linter.unusedSimpArgs false
/-- A variable's box that was laid and set, at a call. -/
theorem box_set (w : World) (p q : Value) (t : TypeId) : ((w.alloc (.cells #[p] t)).setCell ⟨w.heap.size, 0, none⟩ q).heap[w.heap.size]? = some (.cells #[q] t (0, 0)) ∧ Below w.heap.size w ((w.alloc (.cells #[p] t)).setCell ⟨w.heap.size, 0, none⟩ q) :=
  ⟨set_heap (heap_new w _), ((Below.refl _ w).alloc (Nat.le_refl _) _).setCell (p := ⟨w.heap.size, 0, none⟩) (Nat.le_refl _) _⟩
theorem box_set2 (w : World) (p q p2 q2 : Value) (t t2 : TypeId) : ((((w.alloc (.cells #[p] t)).alloc (.cells #[p2] t2)).setCell ⟨w.heap.size, 0, none⟩ q).setCell ⟨w.heap.size + 1, 0, none⟩ q2).heap[w.heap.size]? = some (.cells #[q] t (0, 0)) ∧
    ((((w.alloc (.cells #[p] t)).alloc (.cells #[p2] t2)).setCell ⟨w.heap.size, 0, none⟩ q).setCell ⟨w.heap.size + 1, 0, none⟩ q2).heap[w.heap.size + 1]? = some (.cells #[q2] t2 (0, 0)) ∧
    Below w.heap.size w ((((w.alloc (.cells #[p] t)).alloc (.cells #[p2] t2)).setCell ⟨w.heap.size, 0, none⟩ q).setCell ⟨w.heap.size + 1, 0, none⟩ q2) := by
  obtain ⟨h1, h2, h3⟩ := alloc2 w (.cells #[p] t) (.cells #[p2] t2)
  exact ⟨set_other (set_heap h1) (by omega), set_heap (set_other h2 (by omega)), (h3.setCell (p := ⟨w.heap.size, 0, none⟩) (Nat.le_refl _) _).setCell (p := ⟨w.heap.size + 1, 0, none⟩) (Nat.le_succ _) _⟩
theorem calls_box {P : Program} {f : FuncId} {args : Array Value} {R : Ending → World → Prop} {w : World} {p q : Value} {t : TypeId}
    (h : ∀ W, W.heap[w.heap.size]? = some (.cells #[q] t (0, 0)) → Below w.heap.size w W → Calls P f args W R) : Calls P f args ((w.alloc (.cells #[p] t)).setCell ⟨w.heap.size, 0, none⟩ q) R := h _ (box_set w p q t).1 (box_set w p q t).2
theorem calls_box2 {P : Program} {f : FuncId} {args : Array Value} {R : Ending → World → Prop} {w : World} {p q p2 q2 : Value} {t t2 : TypeId}
    (h : ∀ W, W.heap[w.heap.size]? = some (.cells #[q] t (0, 0)) → W.heap[w.heap.size + 1]? = some (.cells #[q2] t2 (0, 0)) → Below w.heap.size w W → Calls P f args W R) : Calls P f args ((((w.alloc (.cells #[p] t)).alloc (.cells #[p2] t2)).setCell ⟨w.heap.size, 0, none⟩ q).setCell ⟨w.heap.size + 1, 0, none⟩ q2) R := by
  obtain ⟨h1, h2, h3⟩ := box_set2 w p q p2 q2 t t2
  exact h _ h1 h2 h3


end Go.Proofs.Ytlopceimlipemaa.Rope
